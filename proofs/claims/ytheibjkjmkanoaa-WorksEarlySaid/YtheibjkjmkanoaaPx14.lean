/- Contracts of Go functions, printed. Conditions: as each theorem states. -/
import Derived.Test.YtheibjkjmkanoaaPx0
import Derived.Test.YtheibjkjmkanoaaPx9
import Derived.Test.YtheibjkjmkanoaaPx12
import Derived.Test.YtheibjkjmkanoaaPx13
import Derived.Test.YtheibjkjmkanoaaGOpen
namespace Go.Proofs.Ytheibjkjmkanoaa.Px
open Go.Proofs.Ytheibjkjmkanoaa.Given
open Go.RowKit Go.Proofs.YtheibjkjmkanoaaW.PrintWords Go.Proofs.YtheibjkjmkanoaaW.PrintLast Go.Proofs.YtheibjkjmkanoaaW.PrintMore
attribute [local go_sem] a3m a3n a3x a3y a3e a3f a3o a3p
set_option linter.unusedVariables false
set_option linter.unusedSimpArgs false
mutual
def a0j.l0 : Nat → List (S51) → List (S42) → Int → Int → List (S42) → List (Int × Int) → List (Int × List (S56)) → List (S51) → Option (Int)
 | 0,_,_,_,_,_,_,_,_ => none
 | k + 1,x0,b,c,a,u0,u1,u2,u3 => if a < c then (if 0 ≤ a then (if a < (b.length : Int) then (if a < (x0.length : Int) then (if ((a0b b a).f1) < 0 then (a0j.j1 k x0 a b c a true u0 u1 u2 u3 ((a0b b a).f0) ((a0b b a).f1) ((a0b b a).f2) ((a0a x0 a).f0) ((a0a x0 a).f1) ((a0a x0 a).f2) ((a0a x0 a).f3) ((a0a x0 a).f4)) else (if ((a0b b a).f1) > 36524 then (a0j.j1 k x0 a b c a true u0 u1 u2 u3 ((a0b b a).f0) ((a0b b a).f1) ((a0b b a).f2) ((a0a x0 a).f0) ((a0a x0 a).f1) ((a0a x0 a).f2) ((a0a x0 a).f3) ((a0a x0 a).f4)) else (a0j.j1 k x0 a b c a (((a0b b a).f2) != (wrap64 (((a0b b a).f1) + ((a0a x0 a).f2)))) u0 u1 u2 u3 ((a0b b a).f0) ((a0b b a).f1) ((a0b b a).f2) ((a0a x0 a).f0) ((a0a x0 a).f1) ((a0a x0 a).f2) ((a0a x0 a).f3) ((a0a x0 a).f4)))) else (none)) else (none)) else (none)) else (some 0)
def a0j.j1 : Nat → List (S51) → Int → List (S42) → Int → Int → Bool → List (S42) → List (Int × Int) → List (Int × List (S56)) → List (S51) → Int → Int → Int → Int → Int → Int → List Int → List Int → Option (Int)
 | 0,_,_,_,_,_,_,_,_,_,_,_,_,_,_,_,_,_,_ => none
 | k + 1,x0,x9,d,e,g,h,u0,u1,u2,u3,u4,u5,u6,u7,u8,u9,i,j => if h = true then (some 3) else ((a2u.f k (a3q u2 u8) u4 u5 u6).bind fun b => (if b = true then ((a1o.f k i u4 u5 u6 u0 u3 u1 u2).bind fun c => (if c = true then (some 21) else (if 0 ≤ x9 then (if x9 ≤ (u0.length : Int) then ((a2p.f k u3 u1 u2 x9 u4 u5 u6 (u0.take (x9 : Int).toNat)).bind fun a => (if a.2.2.2 = true then (some 22) else (a0j.l0 k x0 d e (wrap64 (g + 1)) u0 u1 u2 u3))) else (none)) else (none)))) else (some 6)))
end
def a0j.f (k : Nat) (l0 : List (S51)) (l1 : List (S58)) (l2 : List (S42)) : Option (Int) := (a4n.f k l0 l1).bind fun a => (if a.1 = true then ((a3l.f k l0 l2).bind fun b => (if b = true then (a0j.l0 k l0 l2 (l2.length : Int) 0 l2 a.2.1 a.2.2 l0) else (some 1))) else (some 1))
theorem a0j.a1h : ∀ k,(∀ y0 y1 y2 y3 y4 y5 y6 y7,LeO (a0j.l0 k y0 y1 y2 y3 y4 y5 y6 y7) (a0j.l0 (k + 1) y0 y1 y2 y3 y4 y5 y6 y7)) ∧ (∀ y0 y1 y2 y3 y4 y5 y6 y7 y8 y9 a b c d e g i j,LeO (a0j.j1 k y0 y1 y2 y3 y4 y5 y6 y7 y8 y9 a b c d e g i j) (a0j.j1 (k + 1) y0 y1 y2 y3 y4 y5 y6 y7 y8 y9 a b c d e g i j))
 | 0 => ⟨fun _ _ _ _ _ _ _ _ r h => by simp [a0j.l0] at h,fun _ _ _ _ _ _ _ _ _ _ _ _ _ _ _ _ _ _ r h => by simp [a0j.j1] at h⟩
 | k + 1 => by
  obtain ⟨l,m⟩ := a0j.a1h k
  refine ⟨?_,?_⟩ <;> intros <;> (first | unfold a0j.l0 | unfold a0j.j1) <;> with_reducible (repeat' first | apply l | apply m | apply a2u.mono | apply a4n.mono | apply a1o.mono | apply a3l.mono | apply a2p.mono | apply LeO.refl | apply LeO.none | apply LeO.ite | refine LeO.bind ?_ (fun _ => ?_))
theorem a0j.mono : ∀ a0 a1 a2 k,LeO (a0j.f k a0 a1 a2) (a0j.f (k + 1) a0 a1 a2) := by
 intro a0 a1 a2 k
 obtain ⟨a,b⟩ := a0j.a1h k
 unfold a0j.f
 with_reducible (repeat' first | apply a | apply b | apply a2u.mono | apply a4n.mono | apply a1o.mono | apply a3l.mono | apply a2p.mono | apply LeO.refl | apply LeO.none | apply LeO.ite | refine LeO.bind ?_ (fun _ => ?_))
def a0j.T14 : Bool × List (List Nat × List Nat) := (true,[([],[]),([],[]),([],[]),([],[]),([],[]),([3,4],[3,4]),([0,1,2,5],[0,1,2,5]),([6],[6]),([7],[7]),([7],[7]),([],[]),([10,8,6,0,1,2,3,4,5,6,7,8,10],[8,10]),([9,11,0,1,2,3,4,5,6,7,8,9,10,11],[9])])
def a0j.B14 : List Nat := [0,0,0,0,0,24,63,127,255,255,0,1535,4095]
theorem a0j.b9t : rtab .any (opsOf Try.f17 14) = a0j.T14 := by kernel_rfl
theorem a0j.b7v : a5i a0j.T14.2 a0j.B14 = true := by kernel_rfl
set_option maxHeartbeats 8000000 in
set_option maxRecDepth 100000 in
theorem a0j.calls (k : Nat) (A0 : Option Addr) (c0 : Nat) (l0 : List (S51)) (A1 : Option Addr) (c1 : Nat) (l1 : List (S58)) (A2 : Option Addr) (c2 : Nat) (l2 : List (S42)) (r : Int) (w : World) (dY : Kd.C k51 w A0 l0.length l0) (dZ : l0.length ≤ c0) (e0 : Kd.C k58 w A1 l1.length l1) (e1 : l1.length ≤ c1) (e2 : Kd.C k42 w A2 l2.length l2) (e3 : l2.length ≤ c2) (h : a0j.f k l0 l1 l2 = some r) :
  Calls Try.prog 17 #[.slice A0 l0.length c0, .slice A1 l1.length c1, .slice A2 l2.length c2] w fun e w' => e = .returned (.int .i64 r) ∧ Below w.heap.size w w' := by
 have kD := Try.underlying62
 have kE := Try.underlying42
 have kF := Try.underlying51
 have b4 := am_ dY
 have b8 := am_ dZ
 clear dY dZ
 have cS := am_ e0
 have cT := am_ e1
 clear e0 e1
 have bo := am_ e2
 have bq := am_ e3
 clear e2 e3
 have HB := am_ (Below.refl w.heap.size w)
 have H : ((a4n.f k l0 l1).bind fun bM => (if bM.1 = true then ((a3l.f k l0 l2).bind fun br => (if br = true then (a0j.l0 k l0 l2 (l2.length : Int) 0 l2 bM.2.1 bM.2.2 l0) else (some 1))) else (some 1))) = some r := h
 clear h
 replace H := bm_ H
 obtain ⟨⟨cU,ag,al⟩,e4,H⟩ := H
 replace H : (if cU = true then ((a3l.f k l0 l2).bind fun br => (if br = true then (a0j.l0 k l0 l2 (l2.length : Int) 0 l2 ag al l0) else (some 1))) else (some 1)) = some r := H
 have A4 := am_ e4
 clear e4
 by_cases c5 : cU = true
 rotate_left
 ·replace c5 := be_ c5
  subst c5
  replace H := qin_ H
  obtain rfl := si_ H
  go_enter Try.func17,Try.ntmps17
  go_wp2_with (first | ((with_reducible refine a0t (N := 5) rfl ?_);refine qev_ 5 #[.slice A2 l2.length c2] 24 ?_;intro B hg kG hbox hb;have c := am_ (hbox);have cD := qga_ hg;have cE := qga_ hg;replace HB := qbs_ hb;clear hb hbox hg) | ((with_reducible refine a0r (f := 30) rfl ?_);refine a2a (some 17) rfl rfl Try.func30 (by kernel_rfl) rfl #[.slice A0 l0.length c0, .slice A1 l1.length c1] rfl (by (try simp only [List.map_toArray,List.map_cons,List.map_nil]);first | done | rfl) ?_;(with_reducible refine (a4n.b2w k _ _ l0 _ _ l1 ag al _ w b4.out b8.out cS.out cT.out qb_ A4.out).mono ?_);rintro e kH ⟨iv,iw,ix,fv,fw,rfl,hb⟩;refine ⟨_,rfl,?_⟩;replace c := qkb_ c hb;replace HB := qbs_ hb;clear hb) | ((with_reducible refine a0t (N := 7) rfl ?_);refine qev_ 7 #[.slice none 0 0, .map none, .map none] 62 ?_;intro iy hg kI hbox hb;have cF := am_ (hbox);have iz := qga_ hg;have iA := qga_ hg;replace HB := qbs_ hb;obtain ⟨bW,bX⟩ := qnb_ hg c;replace c := qkb_ c hb;clear hb hbox hg;have gv := bX.out;have gw := bW.out;obtain ⟨fx,fy,fz⟩ := qz3_ cF;obtain ⟨fA,fB,fC⟩ := qf3_ cF))
  go_ret
  exact ⟨qx_,qb_⟩
 subst c5
 replace H := qip_ H
 replace H := bm_ H
 obtain ⟨br,e5,H⟩ := H
 have A6 := am_ e5
 clear e5
 by_cases c7 : br = true
 rotate_left
 ·replace c7 := be_ c7
  subst c7
  replace H := qin_ H
  obtain rfl := si_ H
  go_enter Try.func17,Try.ntmps17
  go_wp2_with (first | ((with_reducible refine a0t (N := 5) rfl ?_);refine qev_ 5 #[.slice A2 l2.length c2] 24 ?_;intro B hg kJ hbox hb;have c := am_ (hbox);have cD := qga_ hg;have cE := qga_ hg;replace HB := qbs_ hb;clear hb hbox hg) | ((with_reducible refine a0r (f := 30) rfl ?_);refine a2a (some 17) rfl rfl Try.func30 (by kernel_rfl) rfl #[.slice A0 l0.length c0, .slice A1 l1.length c1] rfl (by (try simp only [List.map_toArray,List.map_cons,List.map_nil]);first | done | rfl) ?_;(with_reducible refine (a4n.a7s k _ _ l0 _ _ l1 ag al _ w b4.out b8.out cS.out cT.out qb_ A4.out).mono ?_);rintro e kK ⟨z,A,gh_t273,rfl,b9,ba,hne,bY,aM,hv,hm,hb⟩;refine ⟨_,rfl,?_⟩;have s := am_ (bY);have dO := am_ ((Nat.le_trans ((a0z qb_)) b9 : w.heap.size ≤ z));have dP := am_ ((Nat.le_trans ((a0z qb_)) b9 : w.heap.size ≤ z));have bb := am_ ((Nat.ne_of_lt (Nat.lt_of_lt_of_le (a3v (qk_ c)) b9) : B ≠ z));have aG := am_ ((Nat.ne_of_gt (Nat.lt_of_lt_of_le (a3v (qk_ c)) b9) : z ≠ B));have q := am_ (aM);have dQ := am_ ((Nat.le_trans ((a0z qb_)) ba : w.heap.size ≤ A));have dR := am_ ((Nat.le_trans ((a0z qb_)) ba : w.heap.size ≤ A));replace HB := qbs_ hb;have bc := am_ ((Nat.ne_of_lt (Nat.lt_of_lt_of_le (a3v (qk_ c)) ba) : B ≠ A));have aH := am_ ((Nat.ne_of_gt (Nat.lt_of_lt_of_le (a3v (qk_ c)) ba) : A ≠ B));replace c := qkb_ c hb;have an := am_ (hne);have bZ := am_ (Ne.symm hne);have aD := am_ (hv);have aE := am_ (hm);clear b9 ba hne bY aM hv hm hb) | ((with_reducible refine a0t (N := 7) rfl ?_);refine qev_ 7 #[.slice none 0 0, .map none, .map none] 62 ?_;intro D hg e6 hbox hb;have b := am_ (hbox);have dS := qga_ hg;have dT := qga_ hg;replace HB := qbs_ hb;obtain ⟨Z,ar⟩ := qnb_ hg c;replace c := qkb_ c hb;obtain ⟨a0,au⟩ := qnb_ hg s;replace s := qkb_ s hb;obtain ⟨a1,av⟩ := qnb_ hg q;replace q := qkb_ q hb;clear hb hbox hg;have gx := ar.out;have gy := Z.out;have gz := au.out;have gA := a0.out;have gB := av.out;have gC := a1.out;obtain ⟨fD,fE,fF⟩ := qz3_ b;obtain ⟨fG,fH,fI⟩ := qf3_ b;have gD := bb.out;have gE := aG.out;have gF := bc.out;have gG := aH.out;have fJ : e6.cell? ⟨B,0,none⟩ = some (.slice A2 l2.length c2) := (bc_ c.out 0).trans rfl;have fK := bf_ c.out 0) | (go_at_call 37;(with_reducible refine (a3l.calls k _ _ l0 _ _ l2 false _ ?s1 b8.out ?s3 bq.out A6.out).mono ?_);(case s1 => exact Kd.a2s b4.out qb_);(case s3 => exact Kd.a2s bo.out qb_);rintro e kL ⟨rfl,hb⟩;replace c := am_ (a2g (g := B) (o := .cells #[.slice A2 l2.length c2] 24 (0,0)) (by refine qdj_ ?_ Z;refine qdj_ ?_ Z;refine qdj_ ?_ Z;refine qd_ ?_;exact c.out) hb);replace s := am_ (a2g (g := z) (o := a1i (Value.int .i64) ag) (by refine qd_ ?_;refine a0e ?_ a0.out _;refine qd_ ?_;refine a0e ?_ a0.out _;refine qd_ ?_;refine a0e ?_ a0.out _;refine qd_ ?_;exact s.out) hb);replace q := am_ (a2g (g := A) (o := a1i (fun e_ : List (S56) × Value => e_.2) gh_t273) (by refine qd_ ?_;refine a0e ?_ a1.out _;refine qd_ ?_;refine a0e ?_ a1.out _;refine qd_ ?_;refine a0e ?_ a1.out _;refine qd_ ?_;exact q.out) hb);replace b := am_ (a2g (g := D) (o := .cells #[.slice A0 l0.length c0, .map (some z), .map (some A)] 62 (0,0)) (by refine qd_ ?_;refine a0g (cs := #[.slice A0 l0.length c0, .map (some z), .map none]) ?_ 2 _ rfl;refine qd_ ?_;refine a0g (cs := #[.slice A0 l0.length c0, .map none, .map none]) ?_ 1 _ rfl;refine qd_ ?_;refine a0g (cs := #[.slice none 0 0, .map none, .map none]) ?_ 0 _ rfl;refine qd_ ?_;exact b.out) hb);replace HB := qbs_ hb;(try clear hb);(try clear aM);(try clear hk);(try clear hi)))
  go_ret
  exact ⟨qx_,qb_⟩
 subst c7
 replace H := qip_ H
 have H' := am_ H
 clear H
 go_enter Try.func17,Try.ntmps17
 go_wp2_with (first | ((with_reducible refine a0t (N := 5) rfl ?_);refine qev_ 5 #[.slice A2 l2.length c2] 24 ?_;intro B hg w8 hbox hb;have c := am_ (hbox);have cD := qga_ hg;have cE := qga_ hg;replace HB := qbs_ hb;clear hb hbox hg) | ((with_reducible refine a0r (f := 30) rfl ?_);refine a2a (some 17) rfl rfl Try.func30 (by kernel_rfl) rfl #[.slice A0 l0.length c0, .slice A1 l1.length c1] rfl (by (try simp only [List.map_toArray,List.map_cons,List.map_nil]);first | done | rfl) ?_;(with_reducible refine (a4n.a7s k _ _ l0 _ _ l1 ag al _ w b4.out b8.out cS.out cT.out qb_ A4.out).mono ?_);rintro e w9 ⟨z,A,gh_t273,rfl,b9,ba,hne,bY,aM,hv,hm,hb⟩;refine ⟨_,rfl,?_⟩;have s := am_ (bY);have dO := am_ ((Nat.le_trans ((a0z qb_)) b9 : w.heap.size ≤ z));have dP := am_ ((Nat.le_trans ((a0z qb_)) b9 : w.heap.size ≤ z));have bb := am_ ((Nat.ne_of_lt (Nat.lt_of_lt_of_le (a3v (qk_ c)) b9) : B ≠ z));have aG := am_ ((Nat.ne_of_gt (Nat.lt_of_lt_of_le (a3v (qk_ c)) b9) : z ≠ B));have q := am_ (aM);have dQ := am_ ((Nat.le_trans ((a0z qb_)) ba : w.heap.size ≤ A));have dR := am_ ((Nat.le_trans ((a0z qb_)) ba : w.heap.size ≤ A));replace HB := qbs_ hb;have bc := am_ ((Nat.ne_of_lt (Nat.lt_of_lt_of_le (a3v (qk_ c)) ba) : B ≠ A));have aH := am_ ((Nat.ne_of_gt (Nat.lt_of_lt_of_le (a3v (qk_ c)) ba) : A ≠ B));replace c := qkb_ c hb;have an := am_ (hne);have bZ := am_ (Ne.symm hne);have aD := am_ (hv);have aE := am_ (hm);clear b9 ba hne bY aM hv hm hb) | ((with_reducible refine a0t (N := 7) rfl ?_);refine qev_ 7 #[.slice none 0 0, .map none, .map none] 62 ?_;intro D hg gH hbox hb;have b := am_ (hbox);have dS := qga_ hg;have dT := qga_ hg;replace HB := qbs_ hb;obtain ⟨Z,ar⟩ := qnb_ hg c;replace c := qkb_ c hb;obtain ⟨a0,au⟩ := qnb_ hg s;replace s := qkb_ s hb;obtain ⟨a1,av⟩ := qnb_ hg q;replace q := qkb_ q hb;clear hb hbox hg;have iB := ar.out;have iC := Z.out;have iD := au.out;have iE := a0.out;have iF := av.out;have iG := a1.out;obtain ⟨ca,cb,cc⟩ := qz3_ b;obtain ⟨cd,ce,cf⟩ := qf3_ b;have iH := bb.out;have iI := aG.out;have iJ := bc.out;have iK := aH.out;have cg : gH.cell? ⟨B,0,none⟩ = some (.slice A2 l2.length c2) := (bc_ c.out 0).trans rfl;have ch := bf_ c.out 0) | (go_at_call 37;(with_reducible refine (a3l.calls k _ _ l0 _ _ l2 true _ ?s1 b8.out ?s3 bq.out A6.out).mono ?_);(case s1 => exact Kd.a2s b4.out qb_);(case s3 => exact Kd.a2s bo.out qb_);rintro e gI ⟨rfl,hb⟩;replace c := am_ (a2g (g := B) (o := .cells #[.slice A2 l2.length c2] 24 (0,0)) (by refine qdj_ ?_ Z;refine qdj_ ?_ Z;refine qdj_ ?_ Z;refine qd_ ?_;exact c.out) hb);replace s := am_ (a2g (g := z) (o := a1i (Value.int .i64) ag) (by refine qd_ ?_;refine a0e ?_ a0.out _;refine qd_ ?_;refine a0e ?_ a0.out _;refine qd_ ?_;refine a0e ?_ a0.out _;refine qd_ ?_;exact s.out) hb);replace q := am_ (a2g (g := A) (o := a1i (fun e_ : List (S56) × Value => e_.2) gh_t273) (by refine qd_ ?_;refine a0e ?_ a1.out _;refine qd_ ?_;refine a0e ?_ a1.out _;refine qd_ ?_;refine a0e ?_ a1.out _;refine qd_ ?_;exact q.out) hb);replace b := am_ (a2g (g := D) (o := .cells #[.slice A0 l0.length c0, .map (some z), .map (some A)] 62 (0,0)) (by refine qd_ ?_;refine a0g (cs := #[.slice A0 l0.length c0, .map (some z), .map none]) ?_ 2 _ rfl;refine qd_ ?_;refine a0g (cs := #[.slice A0 l0.length c0, .map none, .map none]) ?_ 1 _ rfl;refine qd_ ?_;refine a0g (cs := #[.slice none 0 0, .map none, .map none]) ?_ 0 _ rfl;refine qd_ ?_;exact b.out) hb);replace HB := qbs_ hb;(try clear hb);(try clear aM);(try clear hk);(try clear hi);have ci : gI.cell? ⟨B,0,none⟩ = some (.slice A2 l2.length c2) := (bc_ c.out 0).trans rfl;have cj := bf_ c.out 0))
 go_loopg [30] k (fun kq gJ w' => ∃ (a : Int),gJ = .int .i64 a ∧ Aside0 (a0j.l0 kq l0 l2 (l2.length : Int) a l2 ag al l0 = some r) ∧ Aside0 (kq ≤ k) ∧ Aside0 (w'.heap[B]? = some (.cells #[(.slice A2 l2.length c2)] 24 (0,0))) ∧ Aside0 (w'.heap[z]? = some (a1i (Value.int .i64) ag)) ∧ Aside0 (w'.heap[A]? = some (a1i (fun e_ : List (S56) × Value => e_.2) gh_t273)) ∧ Aside0 (w'.heap[D]? = some (.cells #[(.slice A0 l0.length c0), .map (some z), .map (some A)] 62 (0,0))) ∧ Aside0 (Below w.heap.size w w'))
 case atStart => exact ⟨(0),qs_,H',⟨Nat.le_refl _⟩,⟨qk_ c⟩,⟨qk_ s⟩,⟨qk_ q⟩,⟨qk_ b⟩,⟨qb_⟩⟩
 case round =>
 clear H'
 try clear c1
 try clear c2
 try clear c5
 try clear c7
 try clear ca cb cc
 try clear cg
 try clear ci
 try clear cd ce cf
 try clear ch
 try clear cj
 obtain ⟨a,rfl,HA,ck,c,s,q,b,HB⟩ := hrel
 cases gk with
 | zero => exact absurd HA.out (by simp [a0j.l0])
 | succ k1 =>
 have H := HA.out
 clear HA
 simp only [a0j.l0] at H
 by_cases bF : a < (l2.length : Int)
 rotate_left
 ·rw [if_neg bF] at H
  have cG : decide (a < (l2.length : Int)) = false := decide_eq_false bF
  clear bF
  obtain rfl := si_ H
  go_wp2
  go_ret
  exact ⟨qx_,qb_⟩
 rw [if_pos bF] at H
 have cG : decide (a < (l2.length : Int)) = true := decide_eq_true bF
 clear bF
 obtain ⟨dU,H⟩ := qid_ H
 obtain ⟨dV,H⟩ := qid_ H
 obtain ⟨dW,H⟩ := qid_ H
 have cA := am_ H
 clear H
 have bN : 0 ≤ (a : Int) := ot_
 have bO : a < (l2.length : Int) := ot_
 obtain ⟨ab,e7,bj,bk,bl⟩ := a4h bo.out a bN bO
 cases e7
 replace bj := qh_ HB bj
 replace bk := qh_ HB bk
 replace bl := qh_ HB bl
 replace bN := eq_true bN
 replace bO := eq_true bO
 go_upto_region 8 with (first | ((with_reducible refine a0t (N := 10) rfl ?_);refine qev_ 10 #[.int .i64 0, .int .i64 0, .int .i64 0] 42 ?_;intro u hg kQ hbox hb;have d := am_ (hbox);have bP := qga_ hg;have iL := qga_ hg;replace HB := qbs_ hb;obtain ⟨ad,aw⟩ := qnb_ hg c;replace c := qkb_ c hb;obtain ⟨a2,aZ⟩ := qnb_ hg s;replace s := qkb_ s hb;obtain ⟨a3,b0⟩ := qnb_ hg q;replace q := qkb_ q hb;obtain ⟨Y,ak⟩ := qnb_ hg b;replace b := qkb_ b hb;clear hb hbox hg;have iM := aw.out;have iN := ad.out;have iO := aZ.out;have iP := a2.out;have iQ := b0.out;have iR := a3.out;have iS := ak.out;have iT := Y.out;obtain ⟨cV,cW,cX⟩ := qz3_ d;obtain ⟨cY,cZ,d0⟩ := qf3_ d;have bQ : 0 ≤ (a : Int) := ot_;have bR : a < (l0.length : Int) := ot_;obtain ⟨ae,ax,ay,bd,be,e8,am,az,aA,aB,aC,bG,bH,bI,bJ⟩ := a5j b4.out a bQ bR;cases e8;have aU : ae.block ≠ u := Nat.ne_of_lt (Nat.lt_of_lt_of_le (by have := World.block_lt_of_cell? _ _ am;first | rwa [add_block] at this | exact this) bP.out);have aV : ae.block ≠ u := Nat.ne_of_lt (Nat.lt_of_lt_of_le (by have := World.block_lt_of_cell? _ _ am;first | rwa [add_block] at this | exact this) bP.out);have aW : ae.block ≠ u := Nat.ne_of_lt (Nat.lt_of_lt_of_le (by have := World.block_lt_of_cell? _ _ am;first | rwa [add_block] at this | exact this) bP.out);replace am := qh_ HB am;replace az := qh_ HB az;replace aA := qh_ HB aA;replace aB := qh_ HB aB;replace aC := qh_ HB aC;have bm := am_ bH;have bn := am_ bG;clear bH bG;have fL := am_ bJ;have fM := am_ bI;clear bJ bI;replace am := (cell_far (p := ⟨u,0,none⟩) (qn_ aU) (.int .i64 ((a0b l2 a).f0))).trans am;replace az := (cell_far (p := ⟨u,0,none⟩) (qn_ aU) (.int .i64 ((a0b l2 a).f0))).trans az;replace aA := (cell_far (p := ⟨u,0,none⟩) (qn_ aU) (.int .i64 ((a0b l2 a).f0))).trans aA;replace aB := (cell_far (p := ⟨u,0,none⟩) (qn_ aU) (.int .i64 ((a0b l2 a).f0))).trans aB;replace aC := (cell_far (p := ⟨u,0,none⟩) (qn_ aU) (.int .i64 ((a0b l2 a).f0))).trans aC;replace am := (cell_far (p := ⟨u,1,none⟩) (qn_ aV) (.int .i64 ((a0b l2 a).f1))).trans am;replace az := (cell_far (p := ⟨u,1,none⟩) (qn_ aV) (.int .i64 ((a0b l2 a).f1))).trans az;replace aA := (cell_far (p := ⟨u,1,none⟩) (qn_ aV) (.int .i64 ((a0b l2 a).f1))).trans aA;replace aB := (cell_far (p := ⟨u,1,none⟩) (qn_ aV) (.int .i64 ((a0b l2 a).f1))).trans aB;replace aC := (cell_far (p := ⟨u,1,none⟩) (qn_ aV) (.int .i64 ((a0b l2 a).f1))).trans aC;replace am := (cell_far (p := ⟨u,2,none⟩) (qn_ aW) (.int .i64 ((a0b l2 a).f2))).trans am;replace az := (cell_far (p := ⟨u,2,none⟩) (qn_ aW) (.int .i64 ((a0b l2 a).f2))).trans az;replace aA := (cell_far (p := ⟨u,2,none⟩) (qn_ aW) (.int .i64 ((a0b l2 a).f2))).trans aA;replace aB := (cell_far (p := ⟨u,2,none⟩) (qn_ aW) (.int .i64 ((a0b l2 a).f2))).trans aB;replace aC := (cell_far (p := ⟨u,2,none⟩) (qn_ aW) (.int .i64 ((a0b l2 a).f2))).trans aC;clear aU aV aW;replace bQ := eq_true bQ;replace bR := eq_true bR) | ((with_reducible refine a0t (N := 11) rfl ?_);refine qev_ 11 #[.int .i64 0, .int .i64 0, .int .i64 0, .slice none 0 0, .slice none 0 0] 51 ?_;intro af hg kR hbox hb;have v := am_ (hbox);have iU := qga_ hg;have iV := qga_ hg;replace HB := qbs_ hb;have J := am_ ((by rw [hg];exact Nat.ne_of_lt (a3v (g := B) (o := .cells #[.slice (some ab) l2.length c2] 24 (0,0)) (by refine qdj_ ?_ ad;refine qdj_ ?_ ad;refine qdj_ ?_ ad;refine qd_ ?_;exact c.out)) : B ≠ af));have aI := am_ ((by rw [hg];exact Nat.ne_of_gt (a3v (g := B) (o := .cells #[.slice (some ab) l2.length c2] 24 (0,0)) (by refine qdj_ ?_ ad;refine qdj_ ?_ ad;refine qdj_ ?_ ad;refine qd_ ?_;exact c.out)) : af ≠ B));replace c := am_ (a2g (g := B) (o := .cells #[.slice (some ab) l2.length c2] 24 (0,0)) (by refine qdj_ ?_ ad;refine qdj_ ?_ ad;refine qdj_ ?_ ad;refine qd_ ?_;exact c.out) hb);have L := am_ ((by rw [hg];exact Nat.ne_of_lt (a3v (g := z) (o := a1i (Value.int .i64) ag) (by refine qd_ ?_;refine a0e ?_ a2.out _;refine qd_ ?_;refine a0e ?_ a2.out _;refine qd_ ?_;refine a0e ?_ a2.out _;refine qd_ ?_;exact s.out)) : z ≠ af));have aJ := am_ ((by rw [hg];exact Nat.ne_of_gt (a3v (g := z) (o := a1i (Value.int .i64) ag) (by refine qd_ ?_;refine a0e ?_ a2.out _;refine qd_ ?_;refine a0e ?_ a2.out _;refine qd_ ?_;refine a0e ?_ a2.out _;refine qd_ ?_;exact s.out)) : af ≠ z));replace s := am_ (a2g (g := z) (o := a1i (Value.int .i64) ag) (by refine qd_ ?_;refine a0e ?_ a2.out _;refine qd_ ?_;refine a0e ?_ a2.out _;refine qd_ ?_;refine a0e ?_ a2.out _;refine qd_ ?_;exact s.out) hb);have O := am_ ((by rw [hg];exact Nat.ne_of_lt (a3v (g := A) (o := a1i (fun e_ : List (S56) × Value => e_.2) gh_t273) (by refine qd_ ?_;refine a0e ?_ a3.out _;refine qd_ ?_;refine a0e ?_ a3.out _;refine qd_ ?_;refine a0e ?_ a3.out _;refine qd_ ?_;exact q.out)) : A ≠ af));have aK := am_ ((by rw [hg];exact Nat.ne_of_gt (a3v (g := A) (o := a1i (fun e_ : List (S56) × Value => e_.2) gh_t273) (by refine qd_ ?_;refine a0e ?_ a3.out _;refine qd_ ?_;refine a0e ?_ a3.out _;refine qd_ ?_;refine a0e ?_ a3.out _;refine qd_ ?_;exact q.out)) : af ≠ A));replace q := am_ (a2g (g := A) (o := a1i (fun e_ : List (S56) × Value => e_.2) gh_t273) (by refine qd_ ?_;refine a0e ?_ a3.out _;refine qd_ ?_;refine a0e ?_ a3.out _;refine qd_ ?_;refine a0e ?_ a3.out _;refine qd_ ?_;exact q.out) hb);have T := am_ ((by rw [hg];exact Nat.ne_of_lt (a3v (g := D) (o := .cells #[.slice (some ae) l0.length c0, .map (some z), .map (some A)] 62 (0,0)) (by refine qdj_ ?_ Y;refine qdj_ ?_ Y;refine qdj_ ?_ Y;refine qd_ ?_;exact b.out)) : D ≠ af));have aL := am_ ((by rw [hg];exact Nat.ne_of_gt (a3v (g := D) (o := .cells #[.slice (some ae) l0.length c0, .map (some z), .map (some A)] 62 (0,0)) (by refine qdj_ ?_ Y;refine qdj_ ?_ Y;refine qdj_ ?_ Y;refine qd_ ?_;exact b.out)) : af ≠ D));replace b := am_ (a2g (g := D) (o := .cells #[.slice (some ae) l0.length c0, .map (some z), .map (some A)] 62 (0,0)) (by refine qdj_ ?_ Y;refine qdj_ ?_ Y;refine qdj_ ?_ Y;refine qd_ ?_;exact b.out) hb);have G := am_ ((by rw [hg];exact Nat.ne_of_lt (a3v (g := u) (o := .cells #[.int .i64 ((a0b l2 a).f0), .int .i64 ((a0b l2 a).f1), .int .i64 ((a0b l2 a).f2)] 42 (0,0)) (by refine qd_ ?_;refine a0g (cs := #[.int .i64 ((a0b l2 a).f0), .int .i64 ((a0b l2 a).f1), .int .i64 0]) ?_ 2 _ rfl;refine qd_ ?_;refine a0g (cs := #[.int .i64 ((a0b l2 a).f0), .int .i64 0, .int .i64 0]) ?_ 1 _ rfl;refine qd_ ?_;refine a0g (cs := #[.int .i64 0, .int .i64 0, .int .i64 0]) ?_ 0 _ rfl;refine qd_ ?_;exact d.out)) : u ≠ af));have ao := am_ ((by rw [hg];exact Nat.ne_of_gt (a3v (g := u) (o := .cells #[.int .i64 ((a0b l2 a).f0), .int .i64 ((a0b l2 a).f1), .int .i64 ((a0b l2 a).f2)] 42 (0,0)) (by refine qd_ ?_;refine a0g (cs := #[.int .i64 ((a0b l2 a).f0), .int .i64 ((a0b l2 a).f1), .int .i64 0]) ?_ 2 _ rfl;refine qd_ ?_;refine a0g (cs := #[.int .i64 ((a0b l2 a).f0), .int .i64 0, .int .i64 0]) ?_ 1 _ rfl;refine qd_ ?_;refine a0g (cs := #[.int .i64 0, .int .i64 0, .int .i64 0]) ?_ 0 _ rfl;refine qd_ ?_;exact d.out)) : af ≠ u));replace d := am_ (a2g (g := u) (o := .cells #[.int .i64 ((a0b l2 a).f0), .int .i64 ((a0b l2 a).f1), .int .i64 ((a0b l2 a).f2)] 42 (0,0)) (by refine qd_ ?_;refine a0g (cs := #[.int .i64 ((a0b l2 a).f0), .int .i64 ((a0b l2 a).f1), .int .i64 0]) ?_ 2 _ rfl;refine qd_ ?_;refine a0g (cs := #[.int .i64 ((a0b l2 a).f0), .int .i64 0, .int .i64 0]) ?_ 1 _ rfl;refine qd_ ?_;refine a0g (cs := #[.int .i64 0, .int .i64 0, .int .i64 0]) ?_ 0 _ rfl;refine qd_ ?_;exact d.out) hb);clear hb hbox hg;have iW := aI.out;have iX := J.out;have iY := aJ.out;have iZ := L.out;have j5 := aK.out;have j6 := O.out;have j7 := aL.out;have j8 := T.out;have j9 := ao.out;have ja := G.out;obtain ⟨d1,d2,d3,d4,d5⟩ := qz5_ v;obtain ⟨d6,d7,d8,d9,da⟩ := qf5_ v))
 (try simp only [Act.put,List.setIfInBounds_toArray,List.set_cons_zero,List.set_cons_succ])
 go_cut [56] (fun gK wc => ∃ (kq : Nat) (bg : Bool),gK = .bool bg ∧ Aside0 (a0j.j1 kq l0 a l2 (l2.length : Int) a bg l2 ag al l0 ((a0b l2 a).f0) ((a0b l2 a).f1) ((a0b l2 a).f2) ((a0a l0 a).f0) ((a0a l0 a).f1) ((a0a l0 a).f2) ((a0a l0 a).f3) ((a0a l0 a).f4) = some r) ∧ Aside0 (kq ≤ k1) ∧ Aside0 (wc.heap[B]? = some (.cells #[(.slice (some ab) l2.length c2)] 24 (0,0))) ∧ Aside0 (wc.heap[z]? = some (a1i (Value.int .i64) ag)) ∧ Aside0 (wc.heap[A]? = some (a1i (fun e_ : List (S56) × Value => e_.2) gh_t273)) ∧ Aside0 (wc.heap[D]? = some (.cells #[(.slice (some ae) l0.length c0), .map (some z), .map (some A)] 62 (0,0))) ∧ Aside0 (wc.heap[u]? = some (.cells #[.int .i64 ((a0b l2 a).f0), .int .i64 ((a0b l2 a).f1), .int .i64 ((a0b l2 a).f2)] 42 (0,0))) ∧ Aside0 (wc.heap[af]? = some (.cells #[.int .i64 ((a0a l0 a).f0), .int .i64 ((a0a l0 a).f1), .int .i64 ((a0a l0 a).f2),(.slice ax ((a0a l0 a).f3).length ay),(.slice bd ((a0a l0 a).f4).length be)] 51 (0,0))) ∧ Aside0 (Below w.heap.size w wc))
 case first =>
  have H := cA.out
  clear cA
  by_cases bK : ((a0b l2 a).f1) < 0
  ·rw [if_pos bK] at H
   have bf : decide (((a0b l2 a).f1) < 0) = true := decide_eq_true bK
   clear bK
   (first | rw [bf] | (simp only [a4j,a4v];rw [bf]) | skip)
   have H' := am_ H
   clear H
   have jb := aw.out
   have jc := ad.out
   have jd := aZ.out
   have je := a2.out
   have jf := b0.out
   have jg := a3.out
   have jh := ak.out
   have ji := Y.out
   have jj := G.out
   have jk := ao.out
   obtain ⟨db,dc,dd⟩ := qz3_ d;obtain ⟨de,df,dg⟩ := qf3_ d
   go_wp2
   go_meet
   case rel => exact ⟨_,(true),qs_,H',⟨by have := ck.out;first | omega | exact Nat.le_refl _⟩,⟨by refine qdj_ ?_ J;refine qdj_ ?_ J;refine qdj_ ?_ J;refine qdj_ ?_ J;refine qdj_ ?_ J;refine qd_ ?_;exact c.out⟩,⟨by refine qd_ ?_;refine a0e ?_ L.out _;refine qd_ ?_;refine a0e ?_ L.out _;refine qd_ ?_;refine a0e ?_ L.out _;refine qd_ ?_;refine a0e ?_ L.out _;refine qd_ ?_;refine a0e ?_ L.out _;refine qd_ ?_;exact s.out⟩,⟨by refine qd_ ?_;refine a0e ?_ O.out _;refine qd_ ?_;refine a0e ?_ O.out _;refine qd_ ?_;refine a0e ?_ O.out _;refine qd_ ?_;refine a0e ?_ O.out _;refine qd_ ?_;refine a0e ?_ O.out _;refine qd_ ?_;exact q.out⟩,⟨by refine qdj_ ?_ T;refine qdj_ ?_ T;refine qdj_ ?_ T;refine qdj_ ?_ T;refine qdj_ ?_ T;refine qd_ ?_;exact b.out⟩,⟨by refine qdj_ ?_ G;refine qdj_ ?_ G;refine qdj_ ?_ G;refine qdj_ ?_ G;refine qdj_ ?_ G;refine qd_ ?_;exact d.out⟩,⟨by refine qd_ ?_;refine a0g (cs := #[.int .i64 ((a0a l0 a).f0), .int .i64 ((a0a l0 a).f1), .int .i64 ((a0a l0 a).f2), .slice ax ((a0a l0 a).f3).length ay, .slice none 0 0]) ?_ 4 _ rfl;refine qd_ ?_;refine a0g (cs := #[.int .i64 ((a0a l0 a).f0), .int .i64 ((a0a l0 a).f1), .int .i64 ((a0a l0 a).f2), .slice none 0 0, .slice none 0 0]) ?_ 3 _ rfl;refine qd_ ?_;refine a0g (cs := #[.int .i64 ((a0a l0 a).f0), .int .i64 ((a0a l0 a).f1), .int .i64 0, .slice none 0 0, .slice none 0 0]) ?_ 2 _ rfl;refine qd_ ?_;refine a0g (cs := #[.int .i64 ((a0a l0 a).f0), .int .i64 0, .int .i64 0, .slice none 0 0, .slice none 0 0]) ?_ 1 _ rfl;refine qd_ ?_;refine a0g (cs := #[.int .i64 0, .int .i64 0, .int .i64 0, .slice none 0 0, .slice none 0 0]) ?_ 0 _ rfl;refine qd_ ?_;exact v.out⟩,⟨qb_⟩⟩
  rw [if_neg bK] at H
  have bf : decide (((a0b l2 a).f1) < 0) = false := decide_eq_false bK
  clear bK
  (first | rw [bf] | (simp only [a4j,a4v];rw [bf]) | skip)
  by_cases bL : ((a0b l2 a).f1) > 36524
  ·rw [if_pos bL] at H
   have cH : decide (36524 < ((a0b l2 a).f1)) = true := decide_eq_true bL
   clear bL
   have H' := am_ H
   clear H
   have jl := aw.out
   have jm := ad.out
   have jn := aZ.out
   have jo := a2.out
   have jp := b0.out
   have jq := a3.out
   have jr := ak.out
   have js := Y.out
   have jt := G.out
   have ju := ao.out
   obtain ⟨dh,di,dj⟩ := qz3_ d;obtain ⟨dk,dl,dm⟩ := qf3_ d
   go_wp2
   go_meet
   case rel => exact ⟨_,(true),qs_,H',⟨by have := ck.out;first | omega | exact Nat.le_refl _⟩,⟨by refine qdj_ ?_ J;refine qdj_ ?_ J;refine qdj_ ?_ J;refine qdj_ ?_ J;refine qdj_ ?_ J;refine qd_ ?_;exact c.out⟩,⟨by refine qd_ ?_;refine a0e ?_ L.out _;refine qd_ ?_;refine a0e ?_ L.out _;refine qd_ ?_;refine a0e ?_ L.out _;refine qd_ ?_;refine a0e ?_ L.out _;refine qd_ ?_;refine a0e ?_ L.out _;refine qd_ ?_;exact s.out⟩,⟨by refine qd_ ?_;refine a0e ?_ O.out _;refine qd_ ?_;refine a0e ?_ O.out _;refine qd_ ?_;refine a0e ?_ O.out _;refine qd_ ?_;refine a0e ?_ O.out _;refine qd_ ?_;refine a0e ?_ O.out _;refine qd_ ?_;exact q.out⟩,⟨by refine qdj_ ?_ T;refine qdj_ ?_ T;refine qdj_ ?_ T;refine qdj_ ?_ T;refine qdj_ ?_ T;refine qd_ ?_;exact b.out⟩,⟨by refine qdj_ ?_ G;refine qdj_ ?_ G;refine qdj_ ?_ G;refine qdj_ ?_ G;refine qdj_ ?_ G;refine qd_ ?_;exact d.out⟩,⟨by refine qd_ ?_;refine a0g (cs := #[.int .i64 ((a0a l0 a).f0), .int .i64 ((a0a l0 a).f1), .int .i64 ((a0a l0 a).f2), .slice ax ((a0a l0 a).f3).length ay, .slice none 0 0]) ?_ 4 _ rfl;refine qd_ ?_;refine a0g (cs := #[.int .i64 ((a0a l0 a).f0), .int .i64 ((a0a l0 a).f1), .int .i64 ((a0a l0 a).f2), .slice none 0 0, .slice none 0 0]) ?_ 3 _ rfl;refine qd_ ?_;refine a0g (cs := #[.int .i64 ((a0a l0 a).f0), .int .i64 ((a0a l0 a).f1), .int .i64 0, .slice none 0 0, .slice none 0 0]) ?_ 2 _ rfl;refine qd_ ?_;refine a0g (cs := #[.int .i64 ((a0a l0 a).f0), .int .i64 0, .int .i64 0, .slice none 0 0, .slice none 0 0]) ?_ 1 _ rfl;refine qd_ ?_;refine a0g (cs := #[.int .i64 0, .int .i64 0, .int .i64 0, .slice none 0 0, .slice none 0 0]) ?_ 0 _ rfl;refine qd_ ?_;exact v.out⟩,⟨qb_⟩⟩
  rw [if_neg bL] at H
  have cH : decide (36524 < ((a0b l2 a).f1)) = false := decide_eq_false bL
  clear bL
  have H' := am_ H
  clear H
  have jv := aw.out
  have jw := ad.out
  have jx := aZ.out
  have jy := a2.out
  have jz := b0.out
  have jA := a3.out
  have jB := ak.out
  have jC := Y.out
  have jD := G.out
  have jE := ao.out
  obtain ⟨dn,dp,dq⟩ := qz3_ d;obtain ⟨dr,dt,du⟩ := qf3_ d
  have jF := aI.out
  have jG := J.out
  have jH := aJ.out
  have jI := L.out
  have jJ := aK.out
  have jK := O.out
  have jL := aL.out
  have jM := T.out
  obtain ⟨dv,dw,dx,dy,dz⟩ := qz5_ v;obtain ⟨dA,dB,dC,dD,dE⟩ := qf5_ v
  go_wp2
  go_meet
  case rel => exact ⟨_,((((a0b l2 a).f2) != (wrap64 (((a0b l2 a).f1) + ((a0a l0 a).f2))))),qs_,H',⟨by have := ck.out;first | omega | exact Nat.le_refl _⟩,⟨by refine qdj_ ?_ J;refine qdj_ ?_ J;refine qdj_ ?_ J;refine qdj_ ?_ J;refine qdj_ ?_ J;refine qd_ ?_;exact c.out⟩,⟨by refine qd_ ?_;refine a0e ?_ L.out _;refine qd_ ?_;refine a0e ?_ L.out _;refine qd_ ?_;refine a0e ?_ L.out _;refine qd_ ?_;refine a0e ?_ L.out _;refine qd_ ?_;refine a0e ?_ L.out _;refine qd_ ?_;exact s.out⟩,⟨by refine qd_ ?_;refine a0e ?_ O.out _;refine qd_ ?_;refine a0e ?_ O.out _;refine qd_ ?_;refine a0e ?_ O.out _;refine qd_ ?_;refine a0e ?_ O.out _;refine qd_ ?_;refine a0e ?_ O.out _;refine qd_ ?_;exact q.out⟩,⟨by refine qdj_ ?_ T;refine qdj_ ?_ T;refine qdj_ ?_ T;refine qdj_ ?_ T;refine qdj_ ?_ T;refine qd_ ?_;exact b.out⟩,⟨by refine qdj_ ?_ G;refine qdj_ ?_ G;refine qdj_ ?_ G;refine qdj_ ?_ G;refine qdj_ ?_ G;refine qd_ ?_;exact d.out⟩,⟨by refine qd_ ?_;refine a0g (cs := #[.int .i64 ((a0a l0 a).f0), .int .i64 ((a0a l0 a).f1), .int .i64 ((a0a l0 a).f2), .slice ax ((a0a l0 a).f3).length ay, .slice none 0 0]) ?_ 4 _ rfl;refine qd_ ?_;refine a0g (cs := #[.int .i64 ((a0a l0 a).f0), .int .i64 ((a0a l0 a).f1), .int .i64 ((a0a l0 a).f2), .slice none 0 0, .slice none 0 0]) ?_ 3 _ rfl;refine qd_ ?_;refine a0g (cs := #[.int .i64 ((a0a l0 a).f0), .int .i64 ((a0a l0 a).f1), .int .i64 0, .slice none 0 0, .slice none 0 0]) ?_ 2 _ rfl;refine qd_ ?_;refine a0g (cs := #[.int .i64 ((a0a l0 a).f0), .int .i64 0, .int .i64 0, .slice none 0 0, .slice none 0 0]) ?_ 1 _ rfl;refine qd_ ?_;refine a0g (cs := #[.int .i64 0, .int .i64 0, .int .i64 0, .slice none 0 0, .slice none 0 0]) ?_ 0 _ rfl;refine qd_ ?_;exact v.out⟩,⟨qb_⟩⟩
 case rest =>
 clear cA
 try clear c1
 try clear c2
 try clear c5
 try clear c7
 try clear cG
 try clear dU
 try clear dV
 try clear dW
 try clear bf
 try clear cH
 try clear ca cb cc
 try clear cg
 try clear ci
 try clear cV cW cX
 try clear d1 d2 d3 d4 d5
 try clear db dc dd
 try clear dh di dj
 try clear dn dp dq
 try clear dv dw dx dy dz
 try clear cd ce cf
 try clear ch
 try clear cj
 try clear cY cZ d0
 try clear d6 d7 d8 d9 da
 try clear de df dg
 try clear dk dl dm
 try clear dr dt du
 try clear dA dB dC dD dE
 try clear bj
 try clear bk
 try clear bl
 try clear am
 try clear az
 try clear aA
 try clear aB
 try clear aC
 try clear bN
 try clear bQ
 try clear bO
 try clear bR
 obtain ⟨kq,bg,rfl,HA,dF,c,s,q,b,d,v,HB⟩ := hcut
 cases kq with
 | zero => exact absurd HA.out (by simp [a0j.j1])
 | succ aF =>
 have H := HA.out
 clear HA
 simp only [a0j.j1] at H
 by_cases cI : bg = true
 ·subst cI
  replace H := qip_ H
  obtain rfl := si_ H
  go_wp2
  go_ret
  exact ⟨qx_,qb_⟩
 replace cI := be_ cI
 subst cI
 replace H := qin_ H
 replace H := bm_ H
 obtain ⟨e9,dG,H⟩ := H
 have cJ := am_ dG
 clear dG
 by_cases cK : e9 = true
 rotate_left
 ·replace cK := be_ cK
  subst cK
  replace H := qin_ H
  obtain rfl := si_ H
  have gL := ar.out
  have gM := Z.out
  have gN := au.out
  have gO := a0.out
  have gP := av.out
  have gQ := a1.out
  have gR := Y.out
  have gS := ak.out
  have gT := T.out
  have gU := aL.out
  obtain ⟨fN,fO,fP⟩ := qz3_ b;obtain ⟨fQ,fR,fS⟩ := qf3_ b
  have gV := aI.out
  have gW := J.out
  have gX := aJ.out
  have gY := L.out
  have gZ := aK.out
  have h0 := O.out
  have h1 := ao.out
  have h2 := G.out
  obtain ⟨fT,fU,fV,fW,fX⟩ := qz5_ v;obtain ⟨fY,fZ,g0,g1,g2⟩ := qf5_ v
  obtain ⟨b5,b6,ah,ai,aj⟩ := a5a.look aE.out ((a0a l0 a).f1)
  rw [aD.out] at ah ai aj
  have aN := am_ ah
  have aX := am_ aj
  have aY := am_ ai
  clear ah aj ai
  go_wp2_with (first | ((with_reducible refine a0t (N := 61) rfl ?_);refine a6z rfl (N := 61) rfl rfl (M := gh_t273) (k := ((a0a l0 a).f1)) Try.underlying60 Try.underlying3 (a6e _) (qk_ q) rfl ?hx aN.out ?_;(case hx => first | rfl | (go_simp;done) | (go_simp;rfl))) | ((with_reducible refine a0r (f := 38) rfl ?_);refine a2a (some 63) rfl rfl Try.func38 (by kernel_rfl) rfl #[.slice b5 (a3q al ((a0a l0 a).f1)).length b6, .func (.func 39) #[] #[.pointer (some ⟨u,0,none⟩)]] rfl ql_ ?_;(with_reducible refine (a2u.calls aF _ _ (a3q al ((a0a l0 a).f1))  u ((a0b l2 a).f0) ((a0b l2 a).f1) ((a0b l2 a).f2) false _ ?s1 aY.out ?s3 cJ.out).mono ?_);(case s1 => exact qc_ aX);(case s3 => exact (qk_ d));rintro e kM ⟨rfl,hb⟩;refine ⟨_,rfl,?_⟩;replace c := qkb_ c hb;replace s := qkb_ s hb;replace q := qkb_ q hb;replace b := qkb_ b hb;replace d := qkb_ d hb;replace v := qkb_ v hb;replace HB := qbs_ hb;(try clear hb);(try clear aM);(try clear hk);(try clear hi)))
  go_ret
  exact ⟨qx_,qb_⟩
 subst cK
 replace H := qip_ H
 replace H := bm_ H
 obtain ⟨ea,dH,H⟩ := H
 have dI := am_ dH
 clear dH
 by_cases cL : ea = true
 ·subst cL
  replace H := qip_ H
  obtain rfl := si_ H
  have jN := ar.out
  have jO := Z.out
  have jP := au.out
  have jQ := a0.out
  have jR := av.out
  have jS := a1.out
  have jT := Y.out
  have jU := ak.out
  have jV := T.out
  have jW := aL.out
  obtain ⟨h3,h4,h5⟩ := qz3_ b;obtain ⟨h6,h7,h8⟩ := qf3_ b
  have jX := aI.out
  have jY := J.out
  have jZ := aJ.out
  have k0 := L.out
  have k2 := aK.out
  have k3 := O.out
  have k4 := ao.out
  have k5 := G.out
  obtain ⟨h9,ha,hc,he,hf⟩ := qz5_ v;obtain ⟨hh,hj,hl,hn,ho⟩ := qf5_ v
  obtain ⟨b5,b6,ah,ai,aj⟩ := a5a.look aE.out ((a0a l0 a).f1)
  rw [aD.out] at ah ai aj
  have aN := am_ ah
  have aX := am_ aj
  have aY := am_ ai
  clear ah aj ai
  go_wp2_with (first | ((with_reducible refine a0t (N := 61) rfl ?_);refine a6z rfl (N := 61) rfl rfl (M := gh_t273) (k := ((a0a l0 a).f1)) Try.underlying60 Try.underlying3 (a6e _) (qk_ q) rfl ?hx aN.out ?_;(case hx => first | rfl | (go_simp;done) | (go_simp;rfl))) | ((with_reducible refine a0r (f := 38) rfl ?_);refine a2a (some 63) rfl rfl Try.func38 (by kernel_rfl) rfl #[.slice b5 (a3q al ((a0a l0 a).f1)).length b6, .func (.func 39) #[] #[.pointer (some ⟨u,0,none⟩)]] rfl ql_ ?_;(with_reducible refine (a2u.calls aF _ _ (a3q al ((a0a l0 a).f1))  u ((a0b l2 a).f0) ((a0b l2 a).f1) ((a0b l2 a).f2) true _ ?s1 aY.out ?s3 cJ.out).mono ?_);(case s1 => exact qc_ aX);(case s3 => exact (qk_ d));rintro e kS ⟨rfl,hb⟩;refine ⟨_,rfl,?_⟩;replace c := qkb_ c hb;replace s := qkb_ s hb;replace q := qkb_ q hb;replace b := qkb_ b hb;replace d := qkb_ d hb;replace v := qkb_ v hb;replace HB := qbs_ hb;(try clear hb);(try clear aM);(try clear hk);(try clear hi);obtain ⟨hp,hq,hs,ht,hu⟩ := qz5_ v;obtain ⟨hw,hy,hz,hA,hB⟩ := qf5_ v) | ((with_reducible refine a0r (f := 40) rfl ?_);refine a2a (some 68) rfl rfl Try.func40 (by kernel_rfl) rfl #[.slice ax ((a0a l0 a).f3).length ay, .func (.func 41) #[] #[.pointer (some ⟨u,0,none⟩), .pointer (some ⟨B,0,none⟩), .pointer (some ⟨D,0,none⟩)]] rfl ql_ ?_;(with_reducible refine (a1o.calls aF _ _ ((a0a l0 a).f3)  u ((a0b l2 a).f0) ((a0b l2 a).f1) ((a0b l2 a).f2) B (some ab) c2 l2 D (some ae) c0 l0 ag al z A gh_t273 true _ ?s1 bn.out ?s3 bq.out ?s5 b8.out ?s7 ?s8 ?s9 ?s10 ?s11 ?s12 ?s13 ?s14 ?s15 ?s16 ?s17 ?s18 ?s19 ?s20 ?s21 ?s22 ?s23 dI.out).mono ?_);(case s1 => exact qc_ bm);(case s3 => exact qc_ bo);(case s5 => exact qc_ b4);(case s7 => exact (qk_ d));(case s8 => exact (qk_ c));(case s9 => exact (qk_ b));(case s10 => exact aw.out);(case s11 => exact ak.out);(case s12 => exact Z.out);(case s13 => exact (qk_ s));(case s14 => exact (qk_ q));(case s15 => exact aD.out);(case s16 => exact (fun e_ he_ => by obtain ⟨A_,c_,aO,aP,aQ⟩ := aE.out e_ he_;have HRm_ := am_ aQ;exact ⟨A_,c_,aO,aP,by repeat (first | exact (Kd.a2s HRm_.out HB.out) | (with_reducible refine Kd.a1t ?_ _) | (with_reducible refine Kd.a1u ?_ _) | (with_reducible refine Kd.a2h ?_))⟩));(case s17 => exact an.out);(case s18 => exact a2.out);(case s19 => exact aG.out);(case s20 => exact a0.out);(case s21 => exact a3.out);(case s22 => exact aH.out);(case s23 => exact a1.out);rintro e kT ⟨rfl,hb⟩;refine ⟨_,rfl,?_⟩;replace c := qkb_ c hb;replace s := qkb_ s hb;replace q := qkb_ q hb;replace b := qkb_ b hb;replace d := qkb_ d hb;replace v := qkb_ v hb;replace HB := qbs_ hb;(try clear hb);(try clear aM);(try clear hk);(try clear hi)))
  go_ret
  exact ⟨qx_,qb_⟩
 replace cL := be_ cL
 subst cL
 replace H := qin_ H
 by_cases cl : 0 ≤ a
 rotate_left
 ·rw [if_neg cl] at H
  exact absurd H (by simp)
 rw [if_pos cl] at H
 have k6 := eq_true cl
 have k7 : decide (0 ≤ a) = true := decide_eq_true cl
 clear cl
 by_cases cm : a ≤ (l2.length : Int)
 rotate_left
 ·rw [if_neg cm] at H
  exact absurd H (by simp)
 rw [if_pos cm] at H
 have k8 := eq_true cm
 have k9 : decide (a ≤ (l2.length : Int)) = true := decide_eq_true cm
 clear cm
 obtain ⟨aR,bh⟩ : ∃ y_ : List (S42),y_ = (l2.take (a : Int).toNat) := ⟨_,rfl⟩
 replace H : ((a2p.f aF l0 ag al a ((a0b l2 a).f0) ((a0b l2 a).f1) ((a0b l2 a).f2) aR).bind fun dX => (if dX.2.2.2 = true then (some 22) else (a0j.l0 aF l0 l2 (l2.length : Int) (wrap64 (a + 1)) l2 ag al l0))) = some r := by first | (rw [bh];with_reducible exact H) | (have dJ := (Option.bind_some _ _).symm.trans H;rw [bh];with_reducible exact dJ) | (have dJ := (Option.bind_some _ _).symm.trans H;with_reducible exact dJ) | with_reducible exact H | (rw [bh];exact H) | exact H
 have bp := am_ bh
 clear bh
 replace H := bm_ H
 obtain ⟨⟨b1,b2,b3,dK⟩,dL,H⟩ := H
 replace H : (if dK = true then (some 22) else (a0j.l0 aF l0 l2 (l2.length : Int) (wrap64 (a + 1)) l2 ag al l0)) = some r := H
 have cM := am_ dL
 clear dL
 by_cases cN : dK = true
 ·subst cN
  replace H := qip_ H
  obtain rfl := si_ H
  have ka := ar.out
  have kb := Z.out
  have kc := au.out
  have kd := a0.out
  have ke := av.out
  have kf := a1.out
  have kg := Y.out
  have kh := ak.out
  have ki := T.out
  have kj := aL.out
  obtain ⟨hC,hD,hE⟩ := qz3_ b;obtain ⟨hF,hG,hH⟩ := qf3_ b
  have kk := aI.out
  have kl := J.out
  have km := aJ.out
  have kn := L.out
  have ko := aK.out
  have kp := O.out
  have kr := ao.out
  have ks := G.out
  obtain ⟨hI,hJ,hL,hM,hN⟩ := qz5_ v;obtain ⟨hO,hP,hQ,hR,hS⟩ := qf5_ v
  obtain ⟨b5,b6,ah,ai,aj⟩ := a5a.look aE.out ((a0a l0 a).f1)
  rw [aD.out] at ah ai aj
  have aN := am_ ah
  have aX := am_ aj
  have aY := am_ ai
  clear ah aj ai
  try go_wp2_with (first | ((with_reducible refine a0t (N := 61) rfl ?_);refine a6z rfl (N := 61) rfl rfl (M := gh_t273) (k := ((a0a l0 a).f1)) Try.underlying60 Try.underlying3 (a6e _) (qk_ q) rfl ?hx aN.out ?_;(case hx => first | rfl | (go_simp;done) | (go_simp;rfl))) | ((with_reducible refine a0r (f := 38) rfl ?_);refine a2a (some 63) rfl rfl Try.func38 (by kernel_rfl) rfl #[.slice b5 (a3q al ((a0a l0 a).f1)).length b6, .func (.func 39) #[] #[.pointer (some ⟨u,0,none⟩)]] rfl ql_ ?_;(with_reducible refine (a2u.calls aF _ _ (a3q al ((a0a l0 a).f1))  u ((a0b l2 a).f0) ((a0b l2 a).f1) ((a0b l2 a).f2) true _ ?s1 aY.out ?s3 cJ.out).mono ?_);(case s1 => exact qc_ aX);(case s3 => exact (qk_ d));rintro e kU ⟨rfl,hb⟩;refine ⟨_,rfl,?_⟩;replace c := qkb_ c hb;replace s := qkb_ s hb;replace q := qkb_ q hb;replace b := qkb_ b hb;replace d := qkb_ d hb;replace v := qkb_ v hb;replace HB := qbs_ hb;(try clear hb);(try clear aM);(try clear hk);(try clear hi);obtain ⟨hT,hU,hV,hW,hX⟩ := qz5_ v;obtain ⟨hY,hZ,i0,i1,i2⟩ := qf5_ v) | ((with_reducible refine a0r (f := 40) rfl ?_);refine a2a (some 68) rfl rfl Try.func40 (by kernel_rfl) rfl #[.slice ax ((a0a l0 a).f3).length ay, .func (.func 41) #[] #[.pointer (some ⟨u,0,none⟩), .pointer (some ⟨B,0,none⟩), .pointer (some ⟨D,0,none⟩)]] rfl ql_ ?_;(with_reducible refine (a1o.calls aF _ _ ((a0a l0 a).f3)  u ((a0b l2 a).f0) ((a0b l2 a).f1) ((a0b l2 a).f2) B (some ab) c2 l2 D (some ae) c0 l0 ag al z A gh_t273 false _ ?s1 bn.out ?s3 bq.out ?s5 b8.out ?s7 ?s8 ?s9 ?s10 ?s11 ?s12 ?s13 ?s14 ?s15 ?s16 ?s17 ?s18 ?s19 ?s20 ?s21 ?s22 ?s23 dI.out).mono ?_);(case s1 => exact qc_ bm);(case s3 => exact qc_ bo);(case s5 => exact qc_ b4);(case s7 => exact (qk_ d));(case s8 => exact (qk_ c));(case s9 => exact (qk_ b));(case s10 => exact aw.out);(case s11 => exact ak.out);(case s12 => exact Z.out);(case s13 => exact (qk_ s));(case s14 => exact (qk_ q));(case s15 => exact aD.out);(case s16 => exact (fun e_ he_ => by obtain ⟨A_,c_,aO,aP,aQ⟩ := aE.out e_ he_;have HRm_ := am_ aQ;exact ⟨A_,c_,aO,aP,by repeat (first | exact (Kd.a2s HRm_.out HB.out) | (with_reducible refine Kd.a1t ?_ _) | (with_reducible refine Kd.a1u ?_ _) | (with_reducible refine Kd.a2h ?_))⟩));(case s17 => exact an.out);(case s18 => exact a2.out);(case s19 => exact aG.out);(case s20 => exact a0.out);(case s21 => exact a3.out);(case s22 => exact aH.out);(case s23 => exact a1.out);rintro e i3 ⟨rfl,hb⟩;refine ⟨_,rfl,?_⟩;replace c := qkb_ c hb;replace s := qkb_ s hb;replace q := qkb_ q hb;replace b := qkb_ b hb;replace d := qkb_ d hb;replace v := qkb_ v hb;replace HB := qbs_ hb;(try clear hb);(try clear aM);(try clear hk);(try clear hi)))
  replace c := am_ (bd_ c.out)
  replace s := am_ (bd_ s.out)
  replace q := am_ (bd_ q.out)
  replace b := am_ (bd_ b.out)
  replace d := am_ (bd_ d.out)
  replace v := am_ (bd_ v.out)
  replace HB := am_ (ld_ HB.out)
  have cB : (a : Int) ≤ ((l2.length : Int) : Int) := ot_
  obtain ⟨kt,cn,_,dM,_⟩ := info_parts a7c
  have hroom101 : l2.length ≤ c2 := bq.out
  have cO : Kd.C k42 _ (some ab) l2.length l2 := bo.out
  have cQ := a7m (P := Try.prog) 24 42 .i64 Try.underlying24 cn (some ab) l2.length c2 a (ot_) cB hroom101
  have bS := Kd.a5t (m := (a : Int).toNat) cO (by omega)
  have bT : aR.length = (a : Int).toNat := (by rw [bp.out,List.length_take];omega)
  rw [← bp.out] at bS
  rw [← bT] at cQ
  have b7 := am_ bS
  have bi := am_ (show aR.length ≤ c2 from by omega)
  clear bS cO hroom101 cn dM
  have ku := am_ bT
  clear bT
  replace cB := eq_true cB
  refine a4l (n := 13) (S := fun w' => w'.cell? ⟨D,0,none⟩ = some (.slice (some ae) l0.length c0) ∧ w'.cell? ⟨D,1,none⟩ = some (.map (some z)) ∧ w'.cell? ⟨D,2,none⟩ = some (.map (some A)) ∧ w'.cell? ⟨u,0,none⟩ = some (.int .i64 ((a0b l2 a).f0)) ∧ w'.cell? ⟨u,1,none⟩ = some (.int .i64 ((a0b l2 a).f1)) ∧ w'.cell? ⟨u,2,none⟩ = some (.int .i64 ((a0b l2 a).f2)) ∧ w'.cell? ⟨B,0,none⟩ = some (.slice (some ab) l2.length c2)) (ds := []) #[I,I,I,I,I,I,I,I,I,I,I,I,I] (by kernel_rfl) rfl rfl ⟨(bc_ b.out 0).trans rfl,(bc_ b.out 1).trans rfl,(bc_ b.out 2).trans rfl,(bc_ d.out 0).trans rfl,(bc_ d.out 1).trans rfl,(bc_ d.out 2).trans rfl,(bc_ c.out 0).trans rfl⟩ (fun hHeld => ?_);refine a3s a0j.b9t a0j.b7v (fun HT_ HW_ => ?_)
  generalize i3.drew = kN at c s q b d v HB b7 hHeld ⊢
  refine qpu_ 1 (some 71) #[I,U,I,I,I,I,I,I,I,I,I,I,I] ?_
  refine qpu_ 4 (some 74) #[I,U,I,I,U,I,I,I,I,I,I,I,I] ?_
  refine b0r 0 (some 70) #[U,U,I,I,U,I,I,I,I,I,I,I,I] hHeld ?_
  refine b0r 2 (some 72) #[U,U,U,I,U,I,I,I,I,I,I,I,I] hHeld ?_
  refine b0r 3 (some 73) #[U,U,U,U,U,I,I,I,I,I,I,I,I] hHeld ?_
  refine qpu_ 5 (some 75) #[U,U,U,U,U,U,I,I,I,I,I,I,I] ?_
  refine b9m (σ := Nat) 2 #[U,U,U,U,U,U,U,U,U,U,U,I,I] (fun s_ => [(76, .tuple #[.agg #[.int .i64 b1, .int .i64 b2, .int .i64 b3], .bool true]),(12, .pointer (some ⟨s_,0,none⟩)),(69, .tuple #[.agg #[.int .i64 b1, .int .i64 b2, .int .i64 b3], .bool true]),(77, .agg #[.int .i64 b1, .int .i64 b2, .int .i64 b3]),(78, .bool true)]) (fun s_ w' => (w'.cell? ⟨D,0,none⟩ = some (.slice (some ae) l0.length c0) ∧ w'.cell? ⟨D,1,none⟩ = some (.map (some z)) ∧ w'.cell? ⟨D,2,none⟩ = some (.map (some A)) ∧ w'.cell? ⟨u,0,none⟩ = some (.int .i64 ((a0b l2 a).f0)) ∧ w'.cell? ⟨u,1,none⟩ = some (.int .i64 ((a0b l2 a).f1)) ∧ w'.cell? ⟨u,2,none⟩ = some (.int .i64 ((a0b l2 a).f2)) ∧ w'.cell? ⟨B,0,none⟩ = some (.slice (some ab) l2.length c2)) ∧ (w'.heap[B]? = some (.cells #[.slice (some ab) l2.length c2] 24 (0,0))) ∧ (w'.heap[z]? = some (a1i (Value.int .i64) ag)) ∧ (w'.heap[A]? = some (a1i (fun e_ : List (S56) × Value => e_.2) gh_t273)) ∧ (w'.heap[D]? = some (.cells #[.slice (some ae) l0.length c0, .map (some z), .map (some A)] 62 (0,0))) ∧ (w'.heap[u]? = some (.cells #[.int .i64 ((a0b l2 a).f0), .int .i64 ((a0b l2 a).f1), .int .i64 ((a0b l2 a).f2)] 42 (0,0))) ∧ (w'.heap[af]? = some (.cells #[.int .i64 ((a0a l0 a).f0), .int .i64 ((a0a l0 a).f1), .int .i64 ((a0a l0 a).f2), .slice ax ((a0a l0 a).f3).length ay, .slice bd ((a0a l0 a).f4).length be] 51 (0,0))) ∧ (w'.heap[s_]? = some (.cells #[.int .i64 0, .int .i64 0, .int .i64 0] 42 (0,0))) ∧ (w.heap.size ≤ s_) ∧ (w.heap.size ≤ s_) ∧ (B ≠ s_) ∧ (s_ ≠ B) ∧ (z ≠ s_) ∧ (s_ ≠ z) ∧ (A ≠ s_) ∧ (s_ ≠ A) ∧ (D ≠ s_) ∧ (s_ ≠ D) ∧ (u ≠ s_) ∧ (s_ ≠ u) ∧ (af ≠ s_) ∧ (s_ ≠ af) ∧ (Below w.heap.size w w')) ?_ ?_
  rotate_left
  ·intro hCont
   refine two_ (i := 6) (j := 10) (Ni := some 76) (Nj := some 12) #[U,U,U,U,U,U,U,I,I,I,I,I,I] #[U,U,U,U,U,U,I,I,I,I,U,I,I] rfl rfl rfl rfl (b7l HT_.out (by kernel_rfl)) (by decide) (by decide) (fun K hK => ?_) (fun K hK => ?_)
   ·skip
    refine a5z Try.func42 (by kernel_rfl) rfl #[.agg #[.slice (some ae) l0.length c0, .map (some z), .map (some A)], .int .i64 a, .agg #[.int .i64 ((a0b l2 a).f0), .int .i64 ((a0b l2 a).f1), .int .i64 ((a0b l2 a).f2)], .slice (some ab) aR.length c2] (by rfl) rfl rfl ql_ ?_
    with_reducible refine (a2p.calls aF _ _ l0 ag al z A gh_t273 a ((a0b l2 a).f0) ((a0b l2 a).f1) ((a0b l2 a).f2) _ _ aR b1 b2 b3 true _ ?s1 b8.out ?s3 bi.out ?s5 ?s6 ?s7 ?s8 ?s9 cM.out).mono ?_
    (case s1 => exact qc_ b4)
    (case s3 => exact qc_ b7)
    (case s5 => exact (qk_ s))
    (case s6 => exact (qk_ q))
    (case s7 => exact aD.out)
    (case s8 => exact (fun e_ he_ => by obtain ⟨A_,c_,aO,aP,aQ⟩ := aE.out e_ he_;have HRm_ := am_ aQ;exact ⟨A_,c_,aO,aP,by repeat (first | exact (Kd.a2s HRm_.out HB.out) | (with_reducible refine Kd.a1t ?_ _) | (with_reducible refine Kd.a1u ?_ _) | (with_reducible refine Kd.a2h ?_))⟩))
    (case s9 => exact an.out)
    rintro e eb ⟨rfl,hb⟩
    refine ⟨_,rfl,?_⟩
    replace c := qkb_ c hb
    replace s := qkb_ s hb
    replace q := qkb_ q hb
    replace b := qkb_ b hb
    replace d := qkb_ d hb
    replace v := qkb_ v hb
    replace HB := qbs_ hb
    (try clear hb)
    (try clear aM)
    (try clear hk)
    (try clear hi)
    refine hK.out _ _ ⟨(bc_ b.out 0).trans rfl,(bc_ b.out 1).trans rfl,(bc_ b.out 2).trans rfl,(bc_ d.out 0).trans rfl,(bc_ d.out 1).trans rfl,(bc_ d.out 2).trans rfl,(bc_ c.out 0).trans rfl⟩ (fun hHeld => ?_)
    clear hK K
    refine a4q (a' := ?_) ?_ ?_
    rotate_left
    ·show Act.put _ (some 76) _ = _
     exact qp_
    refine qpu_ 7 (some 69) #[U,U,U,U,U,U,U,U,I,I,I,I,I] ?_
    refine qpu_ 8 (some 77) #[U,U,U,U,U,U,U,U,U,I,I,I,I] ?_
    refine qpu_ 9 (some 78) #[U,U,U,U,U,U,U,U,U,U,I,I,I] ?_
    refine one_ (i := 10) (N := some 12) #[U,U,U,U,U,U,U,U,U,U,U,I,I] rfl rfl (a4m HT_.out (by kernel_rfl)) (by decide) (fun K hK => ?_)
    refine a9k ?hg (N := 12) ?hd (cs := #[.int .i64 0, .int .i64 0, .int .i64 0]) (t := 42) ?hr ?_;(case hd => rfl);(case hg => rfl);(case hr => exact qq_)
    intro l hg ec hbox hb
    have ac := am_ (hbox)
    have aS := qga_ hg
    have aT := qga_ hg
    replace HB := qbs_ hb
    obtain ⟨E,a4⟩ := qnb_ hg c
    replace c := qkb_ c hb
    obtain ⟨W,a5⟩ := qnb_ hg s
    replace s := qkb_ s hb
    obtain ⟨X,a6⟩ := qnb_ hg q
    replace q := qkb_ q hb
    obtain ⟨x,a7⟩ := qnb_ hg b
    replace b := qkb_ b hb
    obtain ⟨y,a8⟩ := qnb_ hg d
    replace d := qkb_ d hb
    obtain ⟨a9,aa⟩ := qnb_ hg v
    replace v := qkb_ v hb
    clear hb hbox hg
    refine hK.out _ _ ⟨(bc_ b.out 0).trans rfl,(bc_ b.out 1).trans rfl,(bc_ b.out 2).trans rfl,(bc_ d.out 0).trans rfl,(bc_ d.out 1).trans rfl,(bc_ d.out 2).trans rfl,(bc_ c.out 0).trans rfl⟩ (fun hHeld => ?_)
    clear hK K
    refine a4q (a' := ?_) ?_ ?_
    rotate_left
    ·show Act.put _ (some 12) _ = _
     exact qp_
    exact a4q (by simp only [a7n,Act.put,List.setIfInBounds_toArray,List.set_cons_zero,List.set_cons_succ]) (hCont (l) _ ⟨hHeld,(qk_ c),(qk_ s),(qk_ q),(qk_ b),(qk_ d),(qk_ v),(qk_ ac),aS.out,aT.out,E.out,a4.out,W.out,a5.out,X.out,a6.out,x.out,a7.out,y.out,a8.out,a9.out,aa.out,qb_⟩)
   skip
   refine a9k ?hg (N := 12) ?hd (cs := #[.int .i64 0, .int .i64 0, .int .i64 0]) (t := 42) ?hr ?_;(case hd => rfl);(case hg => rfl);(case hr => exact qq_)
   intro l hg eb hbox hb
   have ac := am_ (hbox)
   have aS := qga_ hg
   have aT := qga_ hg
   replace HB := qbs_ hb
   obtain ⟨E,a4⟩ := qnb_ hg c
   replace c := qkb_ c hb
   obtain ⟨W,a5⟩ := qnb_ hg s
   replace s := qkb_ s hb
   obtain ⟨X,a6⟩ := qnb_ hg q
   replace q := qkb_ q hb
   obtain ⟨x,a7⟩ := qnb_ hg b
   replace b := qkb_ b hb
   obtain ⟨y,a8⟩ := qnb_ hg d
   replace d := qkb_ d hb
   obtain ⟨a9,aa⟩ := qnb_ hg v
   replace v := qkb_ v hb
   clear hb hbox hg
   refine hK.out _ _ ⟨(bc_ b.out 0).trans rfl,(bc_ b.out 1).trans rfl,(bc_ b.out 2).trans rfl,(bc_ d.out 0).trans rfl,(bc_ d.out 1).trans rfl,(bc_ d.out 2).trans rfl,(bc_ c.out 0).trans rfl⟩ (fun hHeld => ?_)
   clear hK K
   refine a4q (a' := ?_) ?_ ?_
   rotate_left
   ·show Act.put _ (some 12) _ = _
    exact qp_
   refine one_ (i := 6) (N := some 76) #[U,U,U,U,U,U,U,I,I,I,U,I,I] rfl rfl (a4m HT_.out (by kernel_rfl)) (by decide) (fun K hK => ?_)
   refine a5z Try.func42 (by kernel_rfl) rfl #[.agg #[.slice (some ae) l0.length c0, .map (some z), .map (some A)], .int .i64 a, .agg #[.int .i64 ((a0b l2 a).f0), .int .i64 ((a0b l2 a).f1), .int .i64 ((a0b l2 a).f2)], .slice (some ab) aR.length c2] (by rfl) rfl rfl ql_ ?_
   with_reducible refine (a2p.calls aF _ _ l0 ag al z A gh_t273 a ((a0b l2 a).f0) ((a0b l2 a).f1) ((a0b l2 a).f2) _ _ aR b1 b2 b3 true _ ?s1 b8.out ?s3 bi.out ?s5 ?s6 ?s7 ?s8 ?s9 cM.out).mono ?_
   (case s1 => exact qc_ b4)
   (case s3 => exact qc_ b7)
   (case s5 => exact (qk_ s))
   (case s6 => exact (qk_ q))
   (case s7 => exact aD.out)
   (case s8 => exact (fun e_ he_ => by obtain ⟨A_,c_,aO,aP,aQ⟩ := aE.out e_ he_;have HRm_ := am_ aQ;exact ⟨A_,c_,aO,aP,by repeat (first | exact (Kd.a2s HRm_.out HB.out) | (with_reducible refine Kd.a1t ?_ _) | (with_reducible refine Kd.a1u ?_ _) | (with_reducible refine Kd.a2h ?_))⟩))
   (case s9 => exact an.out)
   rintro e ec ⟨rfl,hb⟩
   refine ⟨_,rfl,?_⟩
   replace c := qkb_ c hb
   replace s := qkb_ s hb
   replace q := qkb_ q hb
   replace b := qkb_ b hb
   replace d := qkb_ d hb
   replace v := qkb_ v hb
   replace ac := qkb_ ac hb
   replace HB := qbs_ hb
   (try clear hb)
   (try clear aM)
   (try clear hk)
   (try clear hi)
   refine hK.out _ _ ⟨(bc_ b.out 0).trans rfl,(bc_ b.out 1).trans rfl,(bc_ b.out 2).trans rfl,(bc_ d.out 0).trans rfl,(bc_ d.out 1).trans rfl,(bc_ d.out 2).trans rfl,(bc_ c.out 0).trans rfl⟩ (fun hHeld => ?_)
   clear hK K
   refine a4q (a' := ?_) ?_ ?_
   rotate_left
   ·show Act.put _ (some 76) _ = _
    exact qp_
   refine qpu_ 7 (some 69) #[U,U,U,U,U,U,U,U,I,I,U,I,I] ?_
   refine qpu_ 8 (some 77) #[U,U,U,U,U,U,U,U,U,I,U,I,I] ?_
   refine qpu_ 9 (some 78) #[U,U,U,U,U,U,U,U,U,U,U,I,I] ?_
   exact a4q (by simp only [a7n,Act.put,List.setIfInBounds_toArray,List.set_cons_zero,List.set_cons_succ]) (hCont (l) _ ⟨hHeld,(qk_ c),(qk_ s),(qk_ q),(qk_ b),(qk_ d),(qk_ v),(qk_ ac),aS.out,aT.out,E.out,a4.out,W.out,a5.out,X.out,a6.out,x.out,a7.out,y.out,a8.out,a9.out,aa.out,qb_⟩)
  rintro l ap ⟨hS_,co,cp,cq,cr,ct,cu,cv,cw,cx,cy,bs,bt,bu,bv,bw,bx,bz,bA,bB,bC,bD,bE⟩
  replace c : Aside0 (ap.heap[B]? = some (.cells #[.slice (some ab) l2.length c2] 24 (0,0))) := ⟨co⟩
  replace s : Aside0 (ap.heap[z]? = some (a1i (Value.int .i64) ag)) := ⟨cp⟩
  replace q : Aside0 (ap.heap[A]? = some (a1i (fun e_ : List (S56) × Value => e_.2) gh_t273)) := ⟨cq⟩
  replace b : Aside0 (ap.heap[D]? = some (.cells #[.slice (some ae) l0.length c0, .map (some z), .map (some A)] 62 (0,0))) := ⟨cr⟩
  replace d : Aside0 (ap.heap[u]? = some (.cells #[.int .i64 ((a0b l2 a).f0), .int .i64 ((a0b l2 a).f1), .int .i64 ((a0b l2 a).f2)] 42 (0,0))) := ⟨ct⟩
  replace v : Aside0 (ap.heap[af]? = some (.cells #[.int .i64 ((a0a l0 a).f0), .int .i64 ((a0a l0 a).f1), .int .i64 ((a0a l0 a).f2), .slice ax ((a0a l0 a).f3).length ay, .slice bd ((a0a l0 a).f4).length be] 51 (0,0))) := ⟨cu⟩
  have ac : Aside0 (ap.heap[l]? = some (.cells #[.int .i64 0, .int .i64 0, .int .i64 0] 42 (0,0))) := ⟨cv⟩
  have aS : Aside0 (w.heap.size ≤ l) := ⟨cw⟩
  have aT : Aside0 (w.heap.size ≤ l) := ⟨cx⟩
  have E : Aside0 (B ≠ l) := ⟨cy⟩
  have a4 : Aside0 (l ≠ B) := ⟨bs⟩
  have W : Aside0 (z ≠ l) := ⟨bt⟩
  have a5 : Aside0 (l ≠ z) := ⟨bu⟩
  have X : Aside0 (A ≠ l) := ⟨bv⟩
  have a6 : Aside0 (l ≠ A) := ⟨bw⟩
  have x : Aside0 (D ≠ l) := ⟨bx⟩
  have a7 : Aside0 (l ≠ D) := ⟨bz⟩
  have y : Aside0 (u ≠ l) := ⟨bA⟩
  have a8 : Aside0 (l ≠ u) := ⟨bB⟩
  have a9 : Aside0 (af ≠ l) := ⟨bC⟩
  have aa : Aside0 (l ≠ af) := ⟨bD⟩
  replace HB : Aside0 (Below w.heap.size w ap) := ⟨bE⟩
  clear co cp cq cr ct cu cv cw cx cy bs bt bu bv bw bx bz bA bB bC bD bE
  have hHeld : ap.cell? ⟨D,0,none⟩ = some (.slice (some ae) l0.length c0) ∧ ap.cell? ⟨D,1,none⟩ = some (.map (some z)) ∧ ap.cell? ⟨D,2,none⟩ = some (.map (some A)) ∧ ap.cell? ⟨u,0,none⟩ = some (.int .i64 ((a0b l2 a).f0)) ∧ ap.cell? ⟨u,1,none⟩ = some (.int .i64 ((a0b l2 a).f1)) ∧ ap.cell? ⟨u,2,none⟩ = some (.int .i64 ((a0b l2 a).f2)) ∧ ap.cell? ⟨B,0,none⟩ = some (.slice (some ab) l2.length c2) := hS_
  refine a4q (a' := ?_) ?_ ?_
  rotate_left
  ·simp only [a7n,Act.put,List.setIfInBounds_toArray,List.set_cons_zero,List.set_cons_succ]
   rfl
  refine one_ (i := 11) (N := none) #[U,U,U,U,U,U,U,U,U,U,U,U,I] rfl rfl (a4m HT_.out (by kernel_rfl)) (by decide) (fun K hK => ?_)
  have kv : ap.cell? ⟨l,0,none⟩ = some (.int .i64 0) := (bc_ ac.out 0).trans rfl
  have i4 := bf_ ac.out 0
  have ed := E.out
  have ee := W.out
  have ef := X.out
  have eg := x.out
  have eh := y.out
  have ei := a9.out
  have ej := a4.out
  have ek := a5.out
  have el := a6.out
  have em := a7.out
  have en := a8.out
  have eo := aa.out
  have kw : ap.cell? ⟨l,1,none⟩ = some (.int .i64 0) := (bc_ ac.out 1).trans rfl
  have i5 := bf_ ac.out 1
  have ep := E.out
  have eq := W.out
  have er := X.out
  have es := x.out
  have et := y.out
  have eu := a9.out
  have ev := a4.out
  have ew := a5.out
  have ex := a6.out
  have ey := a7.out
  have ez := a8.out
  have eA := aa.out
  have kx : ap.cell? ⟨l,2,none⟩ = some (.int .i64 0) := (bc_ ac.out 2).trans rfl
  have i6 := bf_ ac.out 2
  have eB := E.out
  have eC := W.out
  have eD := X.out
  have eE := x.out
  have eF := y.out
  have eG := a9.out
  have eH := a4.out
  have eI := a5.out
  have eJ := a6.out
  have eK := a7.out
  have eL := a8.out
  have eM := aa.out
  refine b6i (w1 := ?_) (by rfl) rfl ?_ ?_
  rotate_left
  ·go_simp
   rfl
  refine hK.out _ _ ⟨((cell_far (p := ⟨l,_,none⟩) x.out _).trans (((cell_far (p := ⟨l,_,none⟩) x.out _).trans (((cell_far (p := ⟨l,_,none⟩) x.out _).trans (hHeld.1)))))),((cell_far (p := ⟨l,_,none⟩) x.out _).trans (((cell_far (p := ⟨l,_,none⟩) x.out _).trans (((cell_far (p := ⟨l,_,none⟩) x.out _).trans (hHeld.2.1)))))),((cell_far (p := ⟨l,_,none⟩) x.out _).trans (((cell_far (p := ⟨l,_,none⟩) x.out _).trans (((cell_far (p := ⟨l,_,none⟩) x.out _).trans (hHeld.2.2.1)))))),((cell_far (p := ⟨l,_,none⟩) y.out _).trans (((cell_far (p := ⟨l,_,none⟩) y.out _).trans (((cell_far (p := ⟨l,_,none⟩) y.out _).trans (hHeld.2.2.2.1)))))),((cell_far (p := ⟨l,_,none⟩) y.out _).trans (((cell_far (p := ⟨l,_,none⟩) y.out _).trans (((cell_far (p := ⟨l,_,none⟩) y.out _).trans (hHeld.2.2.2.2.1)))))),((cell_far (p := ⟨l,_,none⟩) y.out _).trans (((cell_far (p := ⟨l,_,none⟩) y.out _).trans (((cell_far (p := ⟨l,_,none⟩) y.out _).trans (hHeld.2.2.2.2.2.1)))))),((cell_far (p := ⟨l,_,none⟩) E.out _).trans (((cell_far (p := ⟨l,_,none⟩) E.out _).trans (((cell_far (p := ⟨l,_,none⟩) E.out _).trans (hHeld.2.2.2.2.2.2))))))⟩ (fun hHeld => ?_)
  clear hK K
  refine qpu_ 12 (some 13) #[U,U,U,U,U,U,U,U,U,U,U,U,U] ?_
  refine a4u (a4c HT_.out (by kernel_rfl)) ?_
  try go_wp2
  go_ret
  exact ⟨qx_,qb_⟩
 replace cN := be_ cN
 subst cN
 replace H := qin_ H
 have H' := am_ H
 clear H
 have i7 := ar.out
 have i8 := Z.out
 have i9 := au.out
 have ia := a0.out
 have ib := av.out
 have ic := a1.out
 have id := Y.out
 have ie := ak.out
 have ig := T.out
 have ih := aL.out
 obtain ⟨g3,g4,g5⟩ := qz3_ b;obtain ⟨g6,g7,g8⟩ := qf3_ b
 have ii := aI.out
 have ij := J.out
 have ik := aJ.out
 have il := L.out
 have im := aK.out
 have io := O.out
 have ip := ao.out
 have iq := G.out
 obtain ⟨g9,ga,gb,gc,ge⟩ := qz5_ v;obtain ⟨gf,gg,gh,gi,gj⟩ := qf5_ v
 obtain ⟨b5,b6,ah,ai,aj⟩ := a5a.look aE.out ((a0a l0 a).f1)
 rw [aD.out] at ah ai aj
 have aN := am_ ah
 have aX := am_ aj
 have aY := am_ ai
 clear ah aj ai
 try go_wp2_with (first | ((with_reducible refine a0t (N := 61) rfl ?_);refine a6z rfl (N := 61) rfl rfl (M := gh_t273) (k := ((a0a l0 a).f1)) Try.underlying60 Try.underlying3 (a6e _) (qk_ q) rfl ?hx aN.out ?_;(case hx => first | rfl | (go_simp;done) | (go_simp;rfl))) | ((with_reducible refine a0r (f := 38) rfl ?_);refine a2a (some 63) rfl rfl Try.func38 (by kernel_rfl) rfl #[.slice b5 (a3q al ((a0a l0 a).f1)).length b6, .func (.func 39) #[] #[.pointer (some ⟨u,0,none⟩)]] rfl ql_ ?_;(with_reducible refine (a2u.calls aF _ _ (a3q al ((a0a l0 a).f1))  u ((a0b l2 a).f0) ((a0b l2 a).f1) ((a0b l2 a).f2) true _ ?s1 aY.out ?s3 cJ.out).mono ?_);(case s1 => exact qc_ aX);(case s3 => exact (qk_ d));rintro e kO ⟨rfl,hb⟩;refine ⟨_,rfl,?_⟩;replace c := qkb_ c hb;replace s := qkb_ s hb;replace q := qkb_ q hb;replace b := qkb_ b hb;replace d := qkb_ d hb;replace v := qkb_ v hb;replace HB := qbs_ hb;(try clear hb);(try clear aM);(try clear hk);(try clear hi);obtain ⟨gl,gm,gn,go,gp⟩ := qz5_ v;obtain ⟨gq,gr,gs,gt,gu⟩ := qf5_ v) | ((with_reducible refine a0r (f := 40) rfl ?_);refine a2a (some 68) rfl rfl Try.func40 (by kernel_rfl) rfl #[.slice ax ((a0a l0 a).f3).length ay, .func (.func 41) #[] #[.pointer (some ⟨u,0,none⟩), .pointer (some ⟨B,0,none⟩), .pointer (some ⟨D,0,none⟩)]] rfl ql_ ?_;(with_reducible refine (a1o.calls aF _ _ ((a0a l0 a).f3)  u ((a0b l2 a).f0) ((a0b l2 a).f1) ((a0b l2 a).f2) B (some ab) c2 l2 D (some ae) c0 l0 ag al z A gh_t273 false _ ?s1 bn.out ?s3 bq.out ?s5 b8.out ?s7 ?s8 ?s9 ?s10 ?s11 ?s12 ?s13 ?s14 ?s15 ?s16 ?s17 ?s18 ?s19 ?s20 ?s21 ?s22 ?s23 dI.out).mono ?_);(case s1 => exact qc_ bm);(case s3 => exact qc_ bo);(case s5 => exact qc_ b4);(case s7 => exact (qk_ d));(case s8 => exact (qk_ c));(case s9 => exact (qk_ b));(case s10 => exact aw.out);(case s11 => exact ak.out);(case s12 => exact Z.out);(case s13 => exact (qk_ s));(case s14 => exact (qk_ q));(case s15 => exact aD.out);(case s16 => exact (fun e_ he_ => by obtain ⟨A_,c_,aO,aP,aQ⟩ := aE.out e_ he_;have HRm_ := am_ aQ;exact ⟨A_,c_,aO,aP,by repeat (first | exact (Kd.a2s HRm_.out HB.out) | (with_reducible refine Kd.a1t ?_ _) | (with_reducible refine Kd.a1u ?_ _) | (with_reducible refine Kd.a2h ?_))⟩));(case s17 => exact an.out);(case s18 => exact a2.out);(case s19 => exact aG.out);(case s20 => exact a0.out);(case s21 => exact a3.out);(case s22 => exact aH.out);(case s23 => exact a1.out);rintro e eN ⟨rfl,hb⟩;refine ⟨_,rfl,?_⟩;replace c := qkb_ c hb;replace s := qkb_ s hb;replace q := qkb_ q hb;replace b := qkb_ b hb;replace d := qkb_ d hb;replace v := qkb_ v hb;replace HB := qbs_ hb;(try clear hb);(try clear aM);(try clear hk);(try clear hi)))
 replace c := am_ (bd_ c.out)
 replace s := am_ (bd_ s.out)
 replace q := am_ (bd_ q.out)
 replace b := am_ (bd_ b.out)
 replace d := am_ (bd_ d.out)
 replace v := am_ (bd_ v.out)
 replace HB := am_ (ld_ HB.out)
 have cC : (a : Int) ≤ ((l2.length : Int) : Int) := ot_
 obtain ⟨ky,cz,_,dN,_⟩ := info_parts a7c
 have hroom123 : l2.length ≤ c2 := bq.out
 have cP : Kd.C k42 _ (some ab) l2.length l2 := bo.out
 have cR := a7m (P := Try.prog) 24 42 .i64 Try.underlying24 cz (some ab) l2.length c2 a (ot_) cC hroom123
 have bU := Kd.a5t (m := (a : Int).toNat) cP (by omega)
 have bV : aR.length = (a : Int).toNat := (by rw [bp.out,List.length_take];omega)
 rw [← bp.out] at bU
 rw [← bV] at cR
 have b7 := am_ bU
 have bi := am_ (show aR.length ≤ c2 from by omega)
 clear bU cP hroom123 cz dN
 have kz := am_ bV
 clear bV
 replace cC := eq_true cC
 refine a4l (n := 13) (S := fun w' => w'.cell? ⟨D,0,none⟩ = some (.slice (some ae) l0.length c0) ∧ w'.cell? ⟨D,1,none⟩ = some (.map (some z)) ∧ w'.cell? ⟨D,2,none⟩ = some (.map (some A)) ∧ w'.cell? ⟨u,0,none⟩ = some (.int .i64 ((a0b l2 a).f0)) ∧ w'.cell? ⟨u,1,none⟩ = some (.int .i64 ((a0b l2 a).f1)) ∧ w'.cell? ⟨u,2,none⟩ = some (.int .i64 ((a0b l2 a).f2)) ∧ w'.cell? ⟨B,0,none⟩ = some (.slice (some ab) l2.length c2)) (ds := []) #[I,I,I,I,I,I,I,I,I,I,I,I,I] (by kernel_rfl) rfl rfl ⟨(bc_ b.out 0).trans rfl,(bc_ b.out 1).trans rfl,(bc_ b.out 2).trans rfl,(bc_ d.out 0).trans rfl,(bc_ d.out 1).trans rfl,(bc_ d.out 2).trans rfl,(bc_ c.out 0).trans rfl⟩ (fun hHeld => ?_);refine a3s a0j.b9t a0j.b7v (fun HT_ HW_ => ?_)
 generalize eN.drew = kP at c s q b d v HB b7 hHeld ⊢
 refine qpu_ 1 (some 71) #[I,U,I,I,I,I,I,I,I,I,I,I,I] ?_
 refine qpu_ 4 (some 74) #[I,U,I,I,U,I,I,I,I,I,I,I,I] ?_
 refine b0r 0 (some 70) #[U,U,I,I,U,I,I,I,I,I,I,I,I] hHeld ?_
 refine b0r 2 (some 72) #[U,U,U,I,U,I,I,I,I,I,I,I,I] hHeld ?_
 refine b0r 3 (some 73) #[U,U,U,U,U,I,I,I,I,I,I,I,I] hHeld ?_
 refine qpu_ 5 (some 75) #[U,U,U,U,U,U,I,I,I,I,I,I,I] ?_
 refine b9m (σ := Nat) 2 #[U,U,U,U,U,U,U,U,U,U,U,I,I] (fun s_ => [(76, .tuple #[.agg #[.int .i64 b1, .int .i64 b2, .int .i64 b3], .bool false]),(12, .pointer (some ⟨s_,0,none⟩)),(69, .tuple #[.agg #[.int .i64 b1, .int .i64 b2, .int .i64 b3], .bool false]),(77, .agg #[.int .i64 b1, .int .i64 b2, .int .i64 b3]),(78, .bool false)]) (fun s_ w' => (w'.cell? ⟨D,0,none⟩ = some (.slice (some ae) l0.length c0) ∧ w'.cell? ⟨D,1,none⟩ = some (.map (some z)) ∧ w'.cell? ⟨D,2,none⟩ = some (.map (some A)) ∧ w'.cell? ⟨u,0,none⟩ = some (.int .i64 ((a0b l2 a).f0)) ∧ w'.cell? ⟨u,1,none⟩ = some (.int .i64 ((a0b l2 a).f1)) ∧ w'.cell? ⟨u,2,none⟩ = some (.int .i64 ((a0b l2 a).f2)) ∧ w'.cell? ⟨B,0,none⟩ = some (.slice (some ab) l2.length c2)) ∧ (w'.heap[B]? = some (.cells #[.slice (some ab) l2.length c2] 24 (0,0))) ∧ (w'.heap[z]? = some (a1i (Value.int .i64) ag)) ∧ (w'.heap[A]? = some (a1i (fun e_ : List (S56) × Value => e_.2) gh_t273)) ∧ (w'.heap[D]? = some (.cells #[.slice (some ae) l0.length c0, .map (some z), .map (some A)] 62 (0,0))) ∧ (w'.heap[u]? = some (.cells #[.int .i64 ((a0b l2 a).f0), .int .i64 ((a0b l2 a).f1), .int .i64 ((a0b l2 a).f2)] 42 (0,0))) ∧ (w'.heap[af]? = some (.cells #[.int .i64 ((a0a l0 a).f0), .int .i64 ((a0a l0 a).f1), .int .i64 ((a0a l0 a).f2), .slice ax ((a0a l0 a).f3).length ay, .slice bd ((a0a l0 a).f4).length be] 51 (0,0))) ∧ (w'.heap[s_]? = some (.cells #[.int .i64 0, .int .i64 0, .int .i64 0] 42 (0,0))) ∧ (w.heap.size ≤ s_) ∧ (w.heap.size ≤ s_) ∧ (B ≠ s_) ∧ (s_ ≠ B) ∧ (z ≠ s_) ∧ (s_ ≠ z) ∧ (A ≠ s_) ∧ (s_ ≠ A) ∧ (D ≠ s_) ∧ (s_ ≠ D) ∧ (u ≠ s_) ∧ (s_ ≠ u) ∧ (af ≠ s_) ∧ (s_ ≠ af) ∧ (Below w.heap.size w w')) ?_ ?_
 rotate_left
 ·intro hCont
  refine two_ (i := 6) (j := 10) (Ni := some 76) (Nj := some 12) #[U,U,U,U,U,U,U,I,I,I,I,I,I] #[U,U,U,U,U,U,I,I,I,I,U,I,I] rfl rfl rfl rfl (b7l HT_.out (by kernel_rfl)) (by decide) (by decide) (fun K hK => ?_) (fun K hK => ?_)
  ·skip
   refine a5z Try.func42 (by kernel_rfl) rfl #[.agg #[.slice (some ae) l0.length c0, .map (some z), .map (some A)], .int .i64 a, .agg #[.int .i64 ((a0b l2 a).f0), .int .i64 ((a0b l2 a).f1), .int .i64 ((a0b l2 a).f2)], .slice (some ab) aR.length c2] (by rfl) rfl rfl ql_ ?_
   with_reducible refine (a2p.calls aF _ _ l0 ag al z A gh_t273 a ((a0b l2 a).f0) ((a0b l2 a).f1) ((a0b l2 a).f2) _ _ aR b1 b2 b3 false _ ?s1 b8.out ?s3 bi.out ?s5 ?s6 ?s7 ?s8 ?s9 cM.out).mono ?_
   (case s1 => exact qc_ b4)
   (case s3 => exact qc_ b7)
   (case s5 => exact (qk_ s))
   (case s6 => exact (qk_ q))
   (case s7 => exact aD.out)
   (case s8 => exact (fun e_ he_ => by obtain ⟨A_,c_,aO,aP,aQ⟩ := aE.out e_ he_;have HRm_ := am_ aQ;exact ⟨A_,c_,aO,aP,by repeat (first | exact (Kd.a2s HRm_.out HB.out) | (with_reducible refine Kd.a1t ?_ _) | (with_reducible refine Kd.a1u ?_ _) | (with_reducible refine Kd.a2h ?_))⟩))
   (case s9 => exact an.out)
   rintro e eO ⟨rfl,hb⟩
   refine ⟨_,rfl,?_⟩
   replace c := qkb_ c hb
   replace s := qkb_ s hb
   replace q := qkb_ q hb
   replace b := qkb_ b hb
   replace d := qkb_ d hb
   replace v := qkb_ v hb
   replace HB := qbs_ hb
   (try clear hb)
   (try clear aM)
   (try clear hk)
   (try clear hi)
   refine hK.out _ _ ⟨(bc_ b.out 0).trans rfl,(bc_ b.out 1).trans rfl,(bc_ b.out 2).trans rfl,(bc_ d.out 0).trans rfl,(bc_ d.out 1).trans rfl,(bc_ d.out 2).trans rfl,(bc_ c.out 0).trans rfl⟩ (fun hHeld => ?_)
   clear hK K
   refine a4q (a' := ?_) ?_ ?_
   rotate_left
   ·show Act.put _ (some 76) _ = _
    exact qp_
   refine qpu_ 7 (some 69) #[U,U,U,U,U,U,U,U,I,I,I,I,I] ?_
   refine qpu_ 8 (some 77) #[U,U,U,U,U,U,U,U,U,I,I,I,I] ?_
   refine qpu_ 9 (some 78) #[U,U,U,U,U,U,U,U,U,U,I,I,I] ?_
   refine one_ (i := 10) (N := some 12) #[U,U,U,U,U,U,U,U,U,U,U,I,I] rfl rfl (a4m HT_.out (by kernel_rfl)) (by decide) (fun K hK => ?_)
   refine a9k ?hg (N := 12) ?hd (cs := #[.int .i64 0, .int .i64 0, .int .i64 0]) (t := 42) ?hr ?_;(case hd => rfl);(case hg => rfl);(case hr => exact qq_)
   intro l hg eP hbox hb
   have ac := am_ (hbox)
   have aS := qga_ hg
   have aT := qga_ hg
   replace HB := qbs_ hb
   obtain ⟨E,a4⟩ := qnb_ hg c
   replace c := qkb_ c hb
   obtain ⟨W,a5⟩ := qnb_ hg s
   replace s := qkb_ s hb
   obtain ⟨X,a6⟩ := qnb_ hg q
   replace q := qkb_ q hb
   obtain ⟨x,a7⟩ := qnb_ hg b
   replace b := qkb_ b hb
   obtain ⟨y,a8⟩ := qnb_ hg d
   replace d := qkb_ d hb
   obtain ⟨a9,aa⟩ := qnb_ hg v
   replace v := qkb_ v hb
   clear hb hbox hg
   refine hK.out _ _ ⟨(bc_ b.out 0).trans rfl,(bc_ b.out 1).trans rfl,(bc_ b.out 2).trans rfl,(bc_ d.out 0).trans rfl,(bc_ d.out 1).trans rfl,(bc_ d.out 2).trans rfl,(bc_ c.out 0).trans rfl⟩ (fun hHeld => ?_)
   clear hK K
   refine a4q (a' := ?_) ?_ ?_
   rotate_left
   ·show Act.put _ (some 12) _ = _
    exact qp_
   exact a4q (by simp only [a7n,Act.put,List.setIfInBounds_toArray,List.set_cons_zero,List.set_cons_succ]) (hCont (l) _ ⟨hHeld,(qk_ c),(qk_ s),(qk_ q),(qk_ b),(qk_ d),(qk_ v),(qk_ ac),aS.out,aT.out,E.out,a4.out,W.out,a5.out,X.out,a6.out,x.out,a7.out,y.out,a8.out,a9.out,aa.out,qb_⟩)
  skip
  refine a9k ?hg (N := 12) ?hd (cs := #[.int .i64 0, .int .i64 0, .int .i64 0]) (t := 42) ?hr ?_;(case hd => rfl);(case hg => rfl);(case hr => exact qq_)
  intro l hg eO hbox hb
  have ac := am_ (hbox)
  have aS := qga_ hg
  have aT := qga_ hg
  replace HB := qbs_ hb
  obtain ⟨E,a4⟩ := qnb_ hg c
  replace c := qkb_ c hb
  obtain ⟨W,a5⟩ := qnb_ hg s
  replace s := qkb_ s hb
  obtain ⟨X,a6⟩ := qnb_ hg q
  replace q := qkb_ q hb
  obtain ⟨x,a7⟩ := qnb_ hg b
  replace b := qkb_ b hb
  obtain ⟨y,a8⟩ := qnb_ hg d
  replace d := qkb_ d hb
  obtain ⟨a9,aa⟩ := qnb_ hg v
  replace v := qkb_ v hb
  clear hb hbox hg
  refine hK.out _ _ ⟨(bc_ b.out 0).trans rfl,(bc_ b.out 1).trans rfl,(bc_ b.out 2).trans rfl,(bc_ d.out 0).trans rfl,(bc_ d.out 1).trans rfl,(bc_ d.out 2).trans rfl,(bc_ c.out 0).trans rfl⟩ (fun hHeld => ?_)
  clear hK K
  refine a4q (a' := ?_) ?_ ?_
  rotate_left
  ·show Act.put _ (some 12) _ = _
   exact qp_
  refine one_ (i := 6) (N := some 76) #[U,U,U,U,U,U,U,I,I,I,U,I,I] rfl rfl (a4m HT_.out (by kernel_rfl)) (by decide) (fun K hK => ?_)
  refine a5z Try.func42 (by kernel_rfl) rfl #[.agg #[.slice (some ae) l0.length c0, .map (some z), .map (some A)], .int .i64 a, .agg #[.int .i64 ((a0b l2 a).f0), .int .i64 ((a0b l2 a).f1), .int .i64 ((a0b l2 a).f2)], .slice (some ab) aR.length c2] (by rfl) rfl rfl ql_ ?_
  with_reducible refine (a2p.calls aF _ _ l0 ag al z A gh_t273 a ((a0b l2 a).f0) ((a0b l2 a).f1) ((a0b l2 a).f2) _ _ aR b1 b2 b3 false _ ?s1 b8.out ?s3 bi.out ?s5 ?s6 ?s7 ?s8 ?s9 cM.out).mono ?_
  (case s1 => exact qc_ b4)
  (case s3 => exact qc_ b7)
  (case s5 => exact (qk_ s))
  (case s6 => exact (qk_ q))
  (case s7 => exact aD.out)
  (case s8 => exact (fun e_ he_ => by obtain ⟨A_,c_,aO,aP,aQ⟩ := aE.out e_ he_;have HRm_ := am_ aQ;exact ⟨A_,c_,aO,aP,by repeat (first | exact (Kd.a2s HRm_.out HB.out) | (with_reducible refine Kd.a1t ?_ _) | (with_reducible refine Kd.a1u ?_ _) | (with_reducible refine Kd.a2h ?_))⟩))
  (case s9 => exact an.out)
  rintro e eP ⟨rfl,hb⟩
  refine ⟨_,rfl,?_⟩
  replace c := qkb_ c hb
  replace s := qkb_ s hb
  replace q := qkb_ q hb
  replace b := qkb_ b hb
  replace d := qkb_ d hb
  replace v := qkb_ v hb
  replace ac := qkb_ ac hb
  replace HB := qbs_ hb
  (try clear hb)
  (try clear aM)
  (try clear hk)
  (try clear hi)
  refine hK.out _ _ ⟨(bc_ b.out 0).trans rfl,(bc_ b.out 1).trans rfl,(bc_ b.out 2).trans rfl,(bc_ d.out 0).trans rfl,(bc_ d.out 1).trans rfl,(bc_ d.out 2).trans rfl,(bc_ c.out 0).trans rfl⟩ (fun hHeld => ?_)
  clear hK K
  refine a4q (a' := ?_) ?_ ?_
  rotate_left
  ·show Act.put _ (some 76) _ = _
   exact qp_
  refine qpu_ 7 (some 69) #[U,U,U,U,U,U,U,U,I,I,U,I,I] ?_
  refine qpu_ 8 (some 77) #[U,U,U,U,U,U,U,U,U,I,U,I,I] ?_
  refine qpu_ 9 (some 78) #[U,U,U,U,U,U,U,U,U,U,U,I,I] ?_
  exact a4q (by simp only [a7n,Act.put,List.setIfInBounds_toArray,List.set_cons_zero,List.set_cons_succ]) (hCont (l) _ ⟨hHeld,(qk_ c),(qk_ s),(qk_ q),(qk_ b),(qk_ d),(qk_ v),(qk_ ac),aS.out,aT.out,E.out,a4.out,W.out,a5.out,X.out,a6.out,x.out,a7.out,y.out,a8.out,a9.out,aa.out,qb_⟩)
 rintro l aq ⟨hS_,co,cp,cq,cr,ct,cu,cv,cw,cx,cy,bs,bt,bu,bv,bw,bx,bz,bA,bB,bC,bD,bE⟩
 replace c : Aside0 (aq.heap[B]? = some (.cells #[.slice (some ab) l2.length c2] 24 (0,0))) := ⟨co⟩
 replace s : Aside0 (aq.heap[z]? = some (a1i (Value.int .i64) ag)) := ⟨cp⟩
 replace q : Aside0 (aq.heap[A]? = some (a1i (fun e_ : List (S56) × Value => e_.2) gh_t273)) := ⟨cq⟩
 replace b : Aside0 (aq.heap[D]? = some (.cells #[.slice (some ae) l0.length c0, .map (some z), .map (some A)] 62 (0,0))) := ⟨cr⟩
 replace d : Aside0 (aq.heap[u]? = some (.cells #[.int .i64 ((a0b l2 a).f0), .int .i64 ((a0b l2 a).f1), .int .i64 ((a0b l2 a).f2)] 42 (0,0))) := ⟨ct⟩
 replace v : Aside0 (aq.heap[af]? = some (.cells #[.int .i64 ((a0a l0 a).f0), .int .i64 ((a0a l0 a).f1), .int .i64 ((a0a l0 a).f2), .slice ax ((a0a l0 a).f3).length ay, .slice bd ((a0a l0 a).f4).length be] 51 (0,0))) := ⟨cu⟩
 have ac : Aside0 (aq.heap[l]? = some (.cells #[.int .i64 0, .int .i64 0, .int .i64 0] 42 (0,0))) := ⟨cv⟩
 have aS : Aside0 (w.heap.size ≤ l) := ⟨cw⟩
 have aT : Aside0 (w.heap.size ≤ l) := ⟨cx⟩
 have E : Aside0 (B ≠ l) := ⟨cy⟩
 have a4 : Aside0 (l ≠ B) := ⟨bs⟩
 have W : Aside0 (z ≠ l) := ⟨bt⟩
 have a5 : Aside0 (l ≠ z) := ⟨bu⟩
 have X : Aside0 (A ≠ l) := ⟨bv⟩
 have a6 : Aside0 (l ≠ A) := ⟨bw⟩
 have x : Aside0 (D ≠ l) := ⟨bx⟩
 have a7 : Aside0 (l ≠ D) := ⟨bz⟩
 have y : Aside0 (u ≠ l) := ⟨bA⟩
 have a8 : Aside0 (l ≠ u) := ⟨bB⟩
 have a9 : Aside0 (af ≠ l) := ⟨bC⟩
 have aa : Aside0 (l ≠ af) := ⟨bD⟩
 replace HB : Aside0 (Below w.heap.size w aq) := ⟨bE⟩
 clear co cp cq cr ct cu cv cw cx cy bs bt bu bv bw bx bz bA bB bC bD bE
 have hHeld : aq.cell? ⟨D,0,none⟩ = some (.slice (some ae) l0.length c0) ∧ aq.cell? ⟨D,1,none⟩ = some (.map (some z)) ∧ aq.cell? ⟨D,2,none⟩ = some (.map (some A)) ∧ aq.cell? ⟨u,0,none⟩ = some (.int .i64 ((a0b l2 a).f0)) ∧ aq.cell? ⟨u,1,none⟩ = some (.int .i64 ((a0b l2 a).f1)) ∧ aq.cell? ⟨u,2,none⟩ = some (.int .i64 ((a0b l2 a).f2)) ∧ aq.cell? ⟨B,0,none⟩ = some (.slice (some ab) l2.length c2) := hS_
 refine a4q (a' := ?_) ?_ ?_
 rotate_left
 ·simp only [a7n,Act.put,List.setIfInBounds_toArray,List.set_cons_zero,List.set_cons_succ]
  rfl
 refine one_ (i := 11) (N := none) #[U,U,U,U,U,U,U,U,U,U,U,U,I] rfl rfl (a4m HT_.out (by kernel_rfl)) (by decide) (fun K hK => ?_)
 have kA : aq.cell? ⟨l,0,none⟩ = some (.int .i64 0) := (bc_ ac.out 0).trans rfl
 have ir := bf_ ac.out 0
 have eQ := E.out
 have eR := W.out
 have eS := X.out
 have eT := x.out
 have eU := y.out
 have eV := a9.out
 have eW := a4.out
 have eX := a5.out
 have eY := a6.out
 have eZ := a7.out
 have f5 := a8.out
 have f6 := aa.out
 have kB : aq.cell? ⟨l,1,none⟩ = some (.int .i64 0) := (bc_ ac.out 1).trans rfl
 have it := bf_ ac.out 1
 have f7 := E.out
 have f8 := W.out
 have f9 := X.out
 have fa := x.out
 have fb := y.out
 have fc := a9.out
 have fd := a4.out
 have fe := a5.out
 have ff := a6.out
 have fg := a7.out
 have fh := a8.out
 have fi := aa.out
 have kC : aq.cell? ⟨l,2,none⟩ = some (.int .i64 0) := (bc_ ac.out 2).trans rfl
 have iu := bf_ ac.out 2
 have fj := E.out
 have fk := W.out
 have fl := X.out
 have fm := x.out
 have fn := y.out
 have fo := a9.out
 have fp := a4.out
 have fq := a5.out
 have fr := a6.out
 have fs := a7.out
 have ft := a8.out
 have fu := aa.out
 refine b6i (w1 := ?_) (by rfl) rfl ?_ ?_
 rotate_left
 ·go_simp
  rfl
 refine hK.out _ _ ⟨((cell_far (p := ⟨l,_,none⟩) x.out _).trans (((cell_far (p := ⟨l,_,none⟩) x.out _).trans (((cell_far (p := ⟨l,_,none⟩) x.out _).trans (hHeld.1)))))),((cell_far (p := ⟨l,_,none⟩) x.out _).trans (((cell_far (p := ⟨l,_,none⟩) x.out _).trans (((cell_far (p := ⟨l,_,none⟩) x.out _).trans (hHeld.2.1)))))),((cell_far (p := ⟨l,_,none⟩) x.out _).trans (((cell_far (p := ⟨l,_,none⟩) x.out _).trans (((cell_far (p := ⟨l,_,none⟩) x.out _).trans (hHeld.2.2.1)))))),((cell_far (p := ⟨l,_,none⟩) y.out _).trans (((cell_far (p := ⟨l,_,none⟩) y.out _).trans (((cell_far (p := ⟨l,_,none⟩) y.out _).trans (hHeld.2.2.2.1)))))),((cell_far (p := ⟨l,_,none⟩) y.out _).trans (((cell_far (p := ⟨l,_,none⟩) y.out _).trans (((cell_far (p := ⟨l,_,none⟩) y.out _).trans (hHeld.2.2.2.2.1)))))),((cell_far (p := ⟨l,_,none⟩) y.out _).trans (((cell_far (p := ⟨l,_,none⟩) y.out _).trans (((cell_far (p := ⟨l,_,none⟩) y.out _).trans (hHeld.2.2.2.2.2.1)))))),((cell_far (p := ⟨l,_,none⟩) E.out _).trans (((cell_far (p := ⟨l,_,none⟩) E.out _).trans (((cell_far (p := ⟨l,_,none⟩) E.out _).trans (hHeld.2.2.2.2.2.2))))))⟩ (fun hHeld => ?_)
 clear hK K
 refine qpu_ 12 (some 13) #[U,U,U,U,U,U,U,U,U,U,U,U,U] ?_
 refine a4u (a4c HT_.out (by kernel_rfl)) ?_
 try go_wp2
 go_roundg aF
 case measure => have := ck.out;have := dF.out;omega
 case rel => exact ⟨(wrap64 (a + 1)),qs_,H',⟨by have := ck.out;have := dF.out;omega⟩,⟨by refine qdj_ ?_ E;refine qdj_ ?_ E;refine qdj_ ?_ E;refine qd_ ?_;exact c.out⟩,⟨by refine qd_ ?_;refine a0e ?_ W.out _;refine qd_ ?_;refine a0e ?_ W.out _;refine qd_ ?_;refine a0e ?_ W.out _;refine qd_ ?_;exact s.out⟩,⟨by refine qd_ ?_;refine a0e ?_ X.out _;refine qd_ ?_;refine a0e ?_ X.out _;refine qd_ ?_;refine a0e ?_ X.out _;refine qd_ ?_;exact q.out⟩,⟨by refine qdj_ ?_ x;refine qdj_ ?_ x;refine qdj_ ?_ x;refine qd_ ?_;exact b.out⟩,⟨qb_⟩⟩
end Go.Proofs.Ytheibjkjmkanoaa.Px
