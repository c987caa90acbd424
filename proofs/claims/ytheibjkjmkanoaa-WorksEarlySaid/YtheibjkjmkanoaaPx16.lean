/- Contracts of Go functions, printed. Conditions: as each theorem states. -/
import Derived.Test.YtheibjkjmkanoaaPx0
import Derived.Test.YtheibjkjmkanoaaPx5
import Derived.Test.YtheibjkjmkanoaaPx7
import Derived.Test.YtheibjkjmkanoaaPx11
import Derived.Test.YtheibjkjmkanoaaPx14
import Derived.Test.YtheibjkjmkanoaaPx15
import Derived.Test.YtheibjkjmkanoaaGOpen
namespace Go.Proofs.Ytheibjkjmkanoaa.Px
open Go.Proofs.Ytheibjkjmkanoaa.Given
open Go.RowKit Go.Proofs.YtheibjkjmkanoaaW.PrintWords Go.Proofs.YtheibjkjmkanoaaW.PrintLast Go.Proofs.YtheibjkjmkanoaaW.PrintMore
attribute [local go_sem] a3m a3n a3x a3y a3e a3f a3o a3p
set_option linter.unusedVariables false
set_option linter.unusedSimpArgs false
mutual
def a1e.j0 : Nat → List (S51) → List (S58) → List (S42) → Int → List Int → Bool → Option ((List (S42)) × Int)
 | 0,_,_,_,_,_,_ => none
 | k + 1,x0,x1,x2,x3,x4,b => if b = true then (some (([] : List (S42)),1)) else ((a4n.f k x0 x1).bind fun a => (if a.1 = true then (a1e.l0 k x0 x2 x3 x4 x4 (x4.length : Int) 0 a.2.1 a.2.2 x0) else (none)))
def a1e.l0 : Nat → List (S51) → List (S42) → Int → List Int → List Int → Int → Int → List (Int × Int) → List (Int × List (S56)) → List (S51) → Option ((List (S42)) × Int)
 | 0,_,_,_,_,_,_,_,_,_,_ => none
 | k + 1,x0,x2,x3,x4,b,c,a,b0,b1,b2 => if a < c then (if 0 ≤ a then (if a < (b.length : Int) then (if (mhas b0 (rd b a) = true) then (a1e.l0 k x0 x2 x3 x4 b c (wrap64 (a + 1)) b0 b1 b2) else (some (([] : List (S42)),1))) else (none)) else (none)) else (if 0 ≤ (x0.length : Int) then (if ((x0.length : Int) : Int).toNat ≤ 11728124029610 then (a1e.l1 k x0 x3 x4 x2 (x2.length : Int) 0 b0 b1 b2 (List.replicate ((x0.length : Int) : Int).toNat z42)) else (none)) else (none))
def a1e.l1 : Nat → List (S51) → Int → List Int → List (S42) → Int → Int → List (Int × Int) → List (Int × List (S56)) → List (S51) → List (S42) → Option ((List (S42)) × Int)
 | 0,_,_,_,_,_,_,_,_,_,_ => none
 | k + 1,x0,x3,x4,b,c,a,b0,b1,b2,b3 => if a < c then (if 0 ≤ a then (if a < (b.length : Int) then (if ((a0b b a).f1) < x3 then ((a2b.f k x4 ((a0b b a).f0)).bind fun e => (if e = true then (a1e.j3 k x0 x3 x4 a b c a false b0 b1 b2 b3 ((a0b b a).f0) ((a0b b a).f1) ((a0b b a).f2)) else (if a < (x0.length : Int) then ((a2l.f k ((a0a x0 a).f3) b3 b2 b0 b1).bind fun g => (a1e.j3 k x0 x3 x4 a b c a (!g) b0 b1 b2 b3 ((a0b b a).f0) ((a0b b a).f1) ((a0b b a).f2))) else (none)))) else (a1e.j3 k x0 x3 x4 a b c a false b0 b1 b2 b3 ((a0b b a).f0) ((a0b b a).f1) ((a0b b a).f2))) else (none)) else (none)) else ((a1q.f k b2 b0 b1 x3 b3).bind fun d => (some (d.1,d.2)))
def a1e.j3 : Nat → List (S51) → Int → List Int → Int → List (S42) → Int → Int → Bool → List (Int × Int) → List (Int × List (S56)) → List (S51) → List (S42) → Int → Int → Int → Option ((List (S42)) × Int)
 | 0,_,_,_,_,_,_,_,_,_,_,_,_,_,_,_ => none
 | k + 1,x0,x3,x4,a,b,c,d,e,b0,b1,b2,b3,b4,b5,b6 => if e = true then (if 0 ≤ a then (if a < (b3.length : Int) then (a1e.l1 k x0 x3 x4 b c (wrap64 (d + 1)) b0 b1 b2 (b3.set (a : Int).toNat (⟨b4,b5,b6⟩ : S42))) else (none)) else (none)) else (a1e.l1 k x0 x3 x4 b c (wrap64 (d + 1)) b0 b1 b2 b3)
end
def a1e.f (k : Nat) (l0 : List (S51)) (l1 : List (S58)) (l2 : List (S42)) (a3 : Int) (l4 : List Int) : Option ((List (S42)) × Int) := (a0j.f k l0 l1 l2).bind fun a => (if a = 0 then (if a3 < 0 then (a1e.j0 k l0 l1 l2 a3 l4 true) else (if a3 > 36524 then (a1e.j0 k l0 l1 l2 a3 l4 true) else ((a0x.f k l4 1 1000).bind fun b => (a1e.j0 k l0 l1 l2 a3 l4 (!b))))) else (a1e.j0 k l0 l1 l2 a3 l4 true))
theorem a1e.a1h : ∀ k,(∀ y0 y1 y2 y3 y4 y5,LeO (a1e.j0 k y0 y1 y2 y3 y4 y5) (a1e.j0 (k + 1) y0 y1 y2 y3 y4 y5)) ∧ (∀ y0 y1 y2 y3 y4 y5 y6 y7 y8 y9,LeO (a1e.l0 k y0 y1 y2 y3 y4 y5 y6 y7 y8 y9) (a1e.l0 (k + 1) y0 y1 y2 y3 y4 y5 y6 y7 y8 y9)) ∧ (∀ y0 y1 y2 y3 y4 y5 y6 y7 y8 y9,LeO (a1e.l1 k y0 y1 y2 y3 y4 y5 y6 y7 y8 y9) (a1e.l1 (k + 1) y0 y1 y2 y3 y4 y5 y6 y7 y8 y9)) ∧ (∀ y0 y1 y2 y3 y4 y5 y6 y7 y8 y9 a b c d e,LeO (a1e.j3 k y0 y1 y2 y3 y4 y5 y6 y7 y8 y9 a b c d e) (a1e.j3 (k + 1) y0 y1 y2 y3 y4 y5 y6 y7 y8 y9 a b c d e))
 | 0 => ⟨fun _ _ _ _ _ _ r h => by simp [a1e.j0] at h,fun _ _ _ _ _ _ _ _ _ _ r h => by simp [a1e.l0] at h,fun _ _ _ _ _ _ _ _ _ _ r h => by simp [a1e.l1] at h,fun _ _ _ _ _ _ _ _ _ _ _ _ _ _ _ r h => by simp [a1e.j3] at h⟩
 | k + 1 => by
  obtain ⟨g,i,j,l⟩ := a1e.a1h k
  refine ⟨?_,?_,?_,?_⟩ <;> intros <;> (first | unfold a1e.j0 | unfold a1e.l0 | unfold a1e.l1 | unfold a1e.j3) <;> with_reducible (repeat' first | apply g | apply i | apply j | apply l | apply a4n.mono | apply a2l.mono | apply a2b.mono | apply a0j.mono | apply a1q.mono | apply a0x.mono | apply LeO.refl | apply LeO.none | apply LeO.ite | refine LeO.bind ?_ (fun _ => ?_))
theorem a1e.mono : ∀ a0 a1 a2 a3 a4 k,LeO (a1e.f k a0 a1 a2 a3 a4) (a1e.f (k + 1) a0 a1 a2 a3 a4) := by
 intro a0 a1 a2 a3 a4 k
 obtain ⟨a,b,c,d⟩ := a1e.a1h k
 unfold a1e.f
 with_reducible (repeat' first | apply a | apply b | apply c | apply d | apply a4n.mono | apply a2l.mono | apply a2b.mono | apply a0j.mono | apply a1q.mono | apply a0x.mono | apply LeO.refl | apply LeO.none | apply LeO.ite | refine LeO.bind ?_ (fun _ => ?_))
set_option maxHeartbeats 8000000 in
set_option maxRecDepth 100000 in
theorem a1e.calls (k : Nat) (A0 : Option Addr) (c0 : Nat) (l0 : List (S51)) (A1 : Option Addr) (c1 : Nat) (l1 : List (S58)) (A2 : Option Addr) (c2 : Nat) (l2 : List (S42)) (a3 : Int) (A4 : Option Addr) (c4 : Nat) (l4 : List Int) (r1 : List (S42)) (r2 : Int) (w : World) (di : Kd.C k51 w A0 l0.length l0) (dj : l0.length ≤ c0) (dk : Kd.C k58 w A1 l1.length l1) (dl : l1.length ≤ c1) (dm : Kd.C k42 w A2 l2.length l2) (dn : l2.length ≤ c2) (dp : Kd.C (Kd.int .i64) w A4 l4.length l4) (dq : l4.length ≤ c4) (h : a1e.f k l0 l1 l2 a3 l4 = some (r1,r2)) :
  Calls Try.prog 19 #[.slice A0 l0.length c0, .slice A1 l1.length c1, .slice A2 l2.length c2, .int .i64 a3, .slice A4 l4.length c4] w fun e w' => ∃ dr : Value,e = .returned (.tuple #[dr, .int .i64 r2]) ∧ Kd.R k42 42 w' w.heap.size (fun _ => True) dr r1 ∧ Below w.heap.size w w' := by
 have fE := Try.underlying62
 have fF := Try.underlying42
 have az := am_ di
 have aH := am_ dj
 clear di dj
 have bg := am_ dk
 have bh := am_ dl
 clear dk dl
 have bi := am_ dm
 have bN := am_ dn
 clear dm dn
 have bj := am_ dp
 have cd := am_ dq
 clear dp dq
 have HB := am_ (Below.refl w.heap.size w)
 have H : ((a0j.f k l0 l1 l2).bind fun a9 => (if a9 = 0 then (if a3 < 0 then (a1e.j0 k l0 l1 l2 a3 l4 true) else (if a3 > 36524 then (a1e.j0 k l0 l1 l2 a3 l4 true) else ((a0x.f k l4 1 1000).bind fun b5 => (a1e.j0 k l0 l1 l2 a3 l4 (!b5))))) else (a1e.j0 k l0 l1 l2 a3 l4 true))) = some (r1,r2) := h
 clear h
 have ce := am_ H
 clear H
 go_enter Try.func19,Try.ntmps19
 go_upto_region 1 with (fail)
 go_cut [39] (fun dH wc => ∃ (kq : Nat) (aB : Bool),dH = .bool aB ∧ Aside0 (a1e.j0 kq l0 l1 l2 a3 l4 aB = some (r1,r2)) ∧ Aside0 (kq ≤ k) ∧ Aside0 (Below w.heap.size w wc))
 case first =>
  have H := ce.out
  clear ce
  replace H := bm_ H
  obtain ⟨a9,ds,H⟩ := H
  have A7 := am_ ds
  clear ds
  by_cases c8 : a9 = 0
  rotate_left
  ·rw [if_neg c8] at H
   have af : (a9 == 0) = false := beq_eq_false_iff_ne.mpr c8
   have aI : (a9 != 0) = true := bne_iff_ne.mpr c8
   (first | rw [af] | (simp only [a4j,a4v];rw [af]) | skip)
   have H' := am_ H
   clear H
   go_wp2_with (first | ((with_reducible refine a0r (f := 17) rfl ?_);refine a2a (some 25) rfl rfl Try.func17 (by kernel_rfl) rfl #[.slice A0 l0.length c0, .slice A1 l1.length c1, .slice A2 l2.length c2] rfl ql_ ?_;(with_reducible refine (a0j.calls k _ _ l0 _ _ l1 _ _ l2 a9 _ ?s1 aH.out ?s3 bh.out ?s5 bN.out A7.out).mono ?_);(case s1 => exact qc_ az);(case s3 => exact qc_ bg);(case s5 => exact qc_ bi);rintro e fM ⟨rfl,hb⟩;refine ⟨_,rfl,?_⟩;replace HB := qbs_ hb;(try clear hb);(try clear aV);(try clear hk);(try clear hi)))
   go_meet
   case rel => exact ⟨_,(true),qs_,H',⟨qo_⟩,⟨qb_⟩⟩
  rw [if_pos c8] at H
  have af : (a9 == 0) = true := beq_iff_eq.mpr c8
  have aI : (a9 != 0) = false := bne_eq_false_iff_eq.mpr c8
  clear c8
  (first | rw [af] | (simp only [a4j,a4v];rw [af]) | skip)
  by_cases c9 : a3 < 0
  ·rw [if_pos c9] at H
   have aJ : decide (a3 < 0) = true := decide_eq_true c9
   clear c9
   have H' := am_ H
   clear H
   go_wp2_with (first | ((with_reducible refine a0r (f := 17) rfl ?_);refine a2a (some 25) rfl rfl Try.func17 (by kernel_rfl) rfl #[.slice A0 l0.length c0, .slice A1 l1.length c1, .slice A2 l2.length c2] rfl ql_ ?_;(with_reducible refine (a0j.calls k _ _ l0 _ _ l1 _ _ l2 a9 _ ?s1 aH.out ?s3 bh.out ?s5 bN.out A7.out).mono ?_);(case s1 => exact qc_ az);(case s3 => exact qc_ bg);(case s5 => exact qc_ bi);rintro e fN ⟨rfl,hb⟩;refine ⟨_,rfl,?_⟩;replace HB := qbs_ hb;(try clear hb);(try clear aV);(try clear hk);(try clear hi)))
   go_meet
   case rel => exact ⟨_,(true),qs_,H',⟨qo_⟩,⟨qb_⟩⟩
  rw [if_neg c9] at H
  have aJ : decide (a3 < 0) = false := decide_eq_false c9
  clear c9
  by_cases aW : a3 > 36524
  ·rw [if_pos aW] at H
   have am : decide (36524 < a3) = true := decide_eq_true aW
   clear aW
   have H' := am_ H
   clear H
   go_wp2_with (first | ((with_reducible refine a0r (f := 17) rfl ?_);refine a2a (some 25) rfl rfl Try.func17 (by kernel_rfl) rfl #[.slice A0 l0.length c0, .slice A1 l1.length c1, .slice A2 l2.length c2] rfl ql_ ?_;(with_reducible refine (a0j.calls k _ _ l0 _ _ l1 _ _ l2 a9 _ ?s1 aH.out ?s3 bh.out ?s5 bN.out A7.out).mono ?_);(case s1 => exact qc_ az);(case s3 => exact qc_ bg);(case s5 => exact qc_ bi);rintro e fO ⟨rfl,hb⟩;refine ⟨_,rfl,?_⟩;replace HB := qbs_ hb;(try clear hb);(try clear aV);(try clear hk);(try clear hi)))
   go_meet
   case rel => exact ⟨_,(true),qs_,H',⟨qo_⟩,⟨qb_⟩⟩
  rw [if_neg aW] at H
  have am : decide (36524 < a3) = false := decide_eq_false aW
  clear aW
  replace H := bm_ H
  obtain ⟨b5,cf,H⟩ := H
  have dI := am_ cf
  clear cf
  have H' := am_ H
  clear H
  go_wp2_with (first | ((with_reducible refine a0r (f := 17) rfl ?_);refine a2a (some 25) rfl rfl Try.func17 (by kernel_rfl) rfl #[.slice A0 l0.length c0, .slice A1 l1.length c1, .slice A2 l2.length c2] rfl ql_ ?_;(with_reducible refine (a0j.calls k _ _ l0 _ _ l1 _ _ l2 a9 _ ?s1 aH.out ?s3 bh.out ?s5 bN.out A7.out).mono ?_);(case s1 => exact qc_ az);(case s3 => exact qc_ bg);(case s5 => exact qc_ bi);rintro e fP ⟨rfl,hb⟩;refine ⟨_,rfl,?_⟩;replace HB := qbs_ hb;(try clear hb);(try clear aV);(try clear hk);(try clear hi)) | (go_at_call 46;(with_reducible refine (a0x.calls k _ _ l4 1 1000 b5 _ ?s1 cd.out dI.out).mono ?_);(case s1 => exact qc_ bj);rintro e w' ⟨rfl,⟨nd,rfl⟩⟩))
  go_meet
  case rel => exact ⟨_,(!b5),qs_,H',⟨qo_⟩,⟨qb_⟩⟩
 case rest =>
 clear ce
 try clear c1
 try clear c2
 try clear c4
 try clear af
 try clear aI
 try clear aJ
 try clear am
 obtain ⟨kq,aB,rfl,HA,an,HB⟩ := hcut
 cases kq with
 | zero => exact absurd HA.out (by simp [a1e.j0])
 | succ bO =>
 have H := HA.out
 clear HA
 simp only [a1e.j0] at H
 by_cases aK : aB = true
 ·subst aK
  replace H := qip_ H
  simp only [Option.some.injEq,Prod.mk.injEq] at H
  obtain ⟨rfl,rfl⟩ := H
  go_wp2
  go_ret2
  exact ⟨_,qx_,by first | exact Kd.a7e _ _ _ _ _ | exact Kd.N_nil _ _ _ _ _ | exact Kd.a7f _ _ _ _ _ | exact Kd.Q_nil _ _ _ _ _ | exact Kd.S_nil _ _ _ _ _,qb_⟩
 replace aK := be_ aK
 subst aK
 replace H := qin_ H
 replace H := bm_ H
 obtain ⟨⟨cg,G,ag⟩,ch,H⟩ := H
 replace H : (if cg = true then (a1e.l0 bO l0 l2 a3 l4 l4 (l4.length : Int) 0 G ag l0) else (none)) = some (r1,r2) := H
 have dJ := am_ ch
 clear ch
 by_cases aL : cg = true
 rotate_left
 ·replace aL := be_ aL
  subst aL
  replace H := qin_ H
  exact absurd H (by simp)
 subst aL
 replace H := qip_ H
 have H' := am_ H
 clear H
 go_wp2_with (first | ((with_reducible refine a0r (f := 30) rfl ?_);refine a2a (some 43) rfl rfl Try.func30 (by kernel_rfl) rfl #[.slice A0 l0.length c0, .slice A1 l1.length c1] rfl (by (try simp only [List.map_toArray,List.map_cons,List.map_nil]);first | done | rfl) ?_;(with_reducible refine (a4n.a7s bO _ _ l0 _ _ l1 G ag _ w az.out aH.out bg.out bh.out qb_ dJ.out).mono ?_);rintro e fQ ⟨J,K,gh_t316,rfl,ci,cj,hne,dt,aV,hv,hm,hb⟩;refine ⟨_,rfl,?_⟩;have m := am_ (dt);have eg := am_ ((Nat.le_trans ((a0z qb_)) ci : w.heap.size ≤ J));have d7 := am_ ((Nat.le_trans ((a0z qb_)) ci : w.heap.size ≤ J));have x := am_ (aV);have eh := am_ ((Nat.le_trans ((a0z qb_)) cj : w.heap.size ≤ K));have d8 := am_ ((Nat.le_trans ((a0z qb_)) cj : w.heap.size ≤ K));replace HB := qbs_ hb;have aA := am_ (hne);have du := am_ (Ne.symm hne);have bP := am_ (hv);have bQ := am_ (hm);clear ci cj hne dt aV hv hm hb) | ((with_reducible refine a0t (N := 12) rfl ?_);refine qev_ 12 #[.slice none 0 0, .map none, .map none] 62 ?_;intro ao hg fR hbox hb;have l := am_ (hbox);have ei := qga_ hg;have d9 := qga_ hg;replace HB := qbs_ hb;obtain ⟨D,aa⟩ := qnb_ hg m;replace m := qkb_ m hb;obtain ⟨E,ab⟩ := qnb_ hg x;replace x := qkb_ x hb;clear hb hbox hg;have ej := aa.out;have ek := D.out;have el := ab.out;have em := E.out;obtain ⟨aM,aN,aO⟩ := qz3_ l;obtain ⟨aP,aQ,aR⟩ := qf3_ l))
 go_loopg [48] bO (fun kq dK w' => ∃ (z : Int),dK = .int .i64 z ∧ Aside0 (a1e.l0 kq l0 l2 a3 l4 l4 (l4.length : Int) z G ag l0 = some (r1,r2)) ∧ Aside0 (kq ≤ bO) ∧ Aside0 (w'.heap[J]? = some (a1i (Value.int .i64) G)) ∧ Aside0 (w'.heap[K]? = some (a1i (fun e_ : List (S56) × Value => e_.2) gh_t316)) ∧ Aside0 (w'.heap[ao]? = some (.cells #[(.slice A0 l0.length c0), .map (some J), .map (some K)] 62 (0,0))) ∧ Aside0 (Below w.heap.size w w'))
 case atStart => exact ⟨(0),qs_,H',⟨Nat.le_refl _⟩,⟨by refine qd_ ?_;refine a0e ?_ D.out _;refine qd_ ?_;refine a0e ?_ D.out _;refine qd_ ?_;refine a0e ?_ D.out _;refine qd_ ?_;exact m.out⟩,⟨by refine qd_ ?_;refine a0e ?_ E.out _;refine qd_ ?_;refine a0e ?_ E.out _;refine qd_ ?_;refine a0e ?_ E.out _;refine qd_ ?_;exact x.out⟩,⟨by refine qd_ ?_;refine a0g (cs := #[.slice A0 l0.length c0, .map (some J), .map none]) ?_ 2 _ rfl;refine qd_ ?_;refine a0g (cs := #[.slice A0 l0.length c0, .map none, .map none]) ?_ 1 _ rfl;refine qd_ ?_;refine a0g (cs := #[.slice none 0 0, .map none, .map none]) ?_ 0 _ rfl;refine qd_ ?_;exact l.out⟩,⟨qb_⟩⟩
 case round =>
 clear H'
 try clear c1
 try clear c2
 try clear c4
 try clear af
 try clear aI
 try clear aJ
 try clear am
 try clear aK
 try clear aL
 try clear aM aN aO
 try clear aP aQ aR
 obtain ⟨z,rfl,HA,ap,m,x,l,HB⟩ := hrel
 cases gk with
 | zero => exact absurd HA.out (by simp [a1e.l0])
 | succ k2 =>
 have H := HA.out
 clear HA
 simp only [a1e.l0] at H
 by_cases aX : z < (l4.length : Int)
 ·rw [if_pos aX] at H
  have b6 : decide (z < (l4.length : Int)) = true := decide_eq_true aX
  clear aX
  obtain ⟨bR,H⟩ := qid_ H
  obtain ⟨bS,H⟩ := qid_ H
  by_cases aY : (mhas G (rd l4 z) = true)
  rotate_left
  ·rw [if_neg aY] at H
   have b7 : mhas G (rd l4 z) = false := by simpa using aY
   clear aY
   simp only [Option.some.injEq,Prod.mk.injEq] at H
   obtain ⟨rfl,rfl⟩ := H
   have ah : 0 ≤ (z : Int) := ot_
   have ai : z < (l4.length : Int) := ot_
   obtain ⟨da,bC,Y⟩ := Kd.a4t bj.out z ah ai
   cases bC
   replace Y := qh_ HB Y
   replace ah := eq_true ah
   replace ai := eq_true ai
   have en := aa.out
   have eo := D.out
   have ep := ab.out
   have eq := E.out
   obtain ⟨bk,bl,bm⟩ := qz3_ l;obtain ⟨bn,bo,bp⟩ := qf3_ l
   go_wp2_with (first | ((with_reducible refine a0t (N := 56) rfl ?_);refine a8o (enc := Value.int .i64) (d := 0) rfl (N := 56) rfl rfl (M := G) (k := rd l4 z) Try.underlying59 Try.underlying3 (a7i _) (qk_ m) rfl ?hx ?_;(case hx => first | rfl | (go_simp;done) | (go_simp;rfl))))
   go_ret2
   exact ⟨_,qx_,by first | exact Kd.a7e _ _ _ _ _ | exact Kd.N_nil _ _ _ _ _ | exact Kd.a7f _ _ _ _ _ | exact Kd.Q_nil _ _ _ _ _ | exact Kd.S_nil _ _ _ _ _,qb_⟩
  rw [if_pos aY] at H
  have b7 : mhas G (rd l4 z) = true := aY
  clear aY
  have H' := am_ H
  clear H
  have ah : 0 ≤ (z : Int) := ot_
  have ai : z < (l4.length : Int) := ot_
  obtain ⟨da,bC,Y⟩ := Kd.a4t bj.out z ah ai
  cases bC
  replace Y := qh_ HB Y
  replace ah := eq_true ah
  replace ai := eq_true ai
  have er := aa.out
  have es := D.out
  have et := ab.out
  have eu := E.out
  obtain ⟨bq,br,bs⟩ := qz3_ l;obtain ⟨bt,bu,bv⟩ := qf3_ l
  go_wp2_with (first | ((with_reducible refine a0t (N := 56) rfl ?_);refine a8o (enc := Value.int .i64) (d := 0) rfl (N := 56) rfl rfl (M := G) (k := rd l4 z) Try.underlying59 Try.underlying3 (a7i _) (qk_ m) rfl ?hx ?_;(case hx => first | rfl | (go_simp;done) | (go_simp;rfl))))
  go_roundg k2
  case measure => have := an.out;have := ap.out;omega
  case rel => exact ⟨(wrap64 (z + 1)),qs_,H',⟨by have := an.out;have := ap.out;omega⟩,⟨qk_ m⟩,⟨qk_ x⟩,⟨qk_ l⟩,⟨qb_⟩⟩
 rw [if_neg aX] at H
 have b6 : decide (z < (l4.length : Int)) = false := decide_eq_false aX
 clear aX
 by_cases bw : 0 ≤ (l0.length : Int)
 rotate_left
 ·rw [if_neg bw] at H
  exact absurd H (by simp)
 rw [if_pos bw] at H
 have bT := eq_true bw
 have bU : decide (0 ≤ (l0.length : Int)) = true := decide_eq_true bw
 clear bw
 by_cases bx : ((l0.length : Int) : Int).toNat ≤ 11728124029610
 rotate_left
 ·rw [if_neg bx] at H
  exact absurd H (by simp)
 rw [if_pos bx] at H
 have bV := eq_true bx
 have bW : decide (((l0.length : Int) : Int).toNat ≤ 11728124029610) = true := decide_eq_true bx
 clear bx
 obtain ⟨b8,aq⟩ : ∃ y_ : List (S42),y_ = (List.replicate ((l0.length : Int) : Int).toNat z42) := ⟨_,rfl⟩
 replace H : (a1e.l1 k2 l0 a3 l4 l2 (l2.length : Int) 0 G ag l0 b8) = some (r1,r2) := by first | (rw [aq];with_reducible exact H) | (have aS := (Option.bind_some _ _).symm.trans H;rw [aq];with_reducible exact aS) | (have aS := (Option.bind_some _ _).symm.trans H;with_reducible exact aS) | with_reducible exact H | (rw [aq];exact H) | exact H
 have bX := am_ aq
 clear aq
 have H' := am_ H
 clear H
 go_wp2_with (first | ((with_reducible refine a0t (N := 64) rfl ?_);refine Kd.c1k k42 _ 42 rfl (N := 64) rfl 24 _ _ rfl (l0.length : Int) rfl rfl Try.underlying24 (.agg #[(.int .i64 0),(.int .i64 0),(.int .i64 0)]) 24 a7c rfl (by decide) (by omega) z42 (ok := fun _ => True) (okp := fun _ => True) (a4p _ _ _ z42 ) (fun _ hk => hk) trivial (ot_) (Nat.le_trans (Nat.mul_le_mul_right _ (ot_ : (l0.length : Int).toNat ≤ 11728124029610)) (by omega)) (Below.refl _ _) (Nat.le_refl _) ?_;intro fG fS aT hb hg_ hnew_;clear hg_ hnew_;(first | rw [← bX.out] at aT | (simp only [Int.reduceToNat] at aT;rw [← bX.out] at aT));have aC := am_ (Kd.a4b aT (a0z qb_));replace m := qkb_ m hb;replace x := qkb_ x hb;replace l := qkb_ l hb;replace HB := qbs_ hb;clear hb aT) | ((with_reducible refine a0t (N := 18) rfl ?_);refine qev_ 18 #[.slice none 0 0] 24 ?_;intro ac hg dL hbox hb;replace aC := qrb_ aC hb;have y := am_ (hbox);have ev := qga_ hg;have db := qga_ hg;replace HB := qbs_ hb;obtain ⟨Z,aj⟩ := qnb_ hg m;replace m := qkb_ m hb;obtain ⟨a0,ak⟩ := qnb_ hg x;replace x := qkb_ x hb;obtain ⟨ad,ae⟩ := qnb_ hg l;replace l := qkb_ l hb;clear hb hbox hg;obtain ⟨ck,cl,dx⟩ := Kd.a3c aC.out;subst dx;have ew := aj.out;have ex := Z.out;have ey := ak.out;have ez := a0.out;have eA := ae.out;have eB := ad.out;have bz : dL.cell? ⟨ac,0,none⟩ = some (.slice none 0 0) := (bc_ y.out 0).trans rfl;have bA := bf_ y.out 0))
 go_loopg [67] k2 (fun kq dM w' => ∃ (a : Int) (b : List (S42)) (W : Value),dM = .int .i64 a ∧ Aside0 (a1e.l1 kq l0 a3 l4 l2 (l2.length : Int) a G ag l0 b = some (r1,r2)) ∧ Aside0 (kq ≤ k2) ∧ Aside0 (Kd.R k42 42 w' w.heap.size (fun _ => True) W b) ∧ Aside0 (w'.heap[J]? = some (a1i (Value.int .i64) G)) ∧ Aside0 (w'.heap[K]? = some (a1i (fun e_ : List (S56) × Value => e_.2) gh_t316)) ∧ Aside0 (w'.heap[ao]? = some (.cells #[(.slice A0 l0.length c0), .map (some J), .map (some K)] 62 (0,0))) ∧ Aside0 (w'.heap[ac]? = some (.cells #[W] 24 (0,0))) ∧ Aside0 (Below w.heap.size w w'))
 case atStart => exact ⟨(0),(b8),(.slice ck b8.length cl),qs_,H',⟨Nat.le_refl _⟩,⟨by (with_reducible repeat (first | apply Kd.a2n | apply Kd.a2o | apply Kd.a2i));exact Kd.a2f (Kd.a4g (p := ⟨ac,0,none⟩) (Kd.b0o aC.out y.out (by decide)) (fun _ hk => hk.2) (.slice ck b8.length cl)) (fun _ hk => trivial)⟩,⟨by refine qd_ ?_;refine a0e ?_ Z.out _;refine qd_ ?_;exact m.out⟩,⟨by refine qd_ ?_;refine a0e ?_ a0.out _;refine qd_ ?_;exact x.out⟩,⟨by refine qdj_ ?_ ad;refine qd_ ?_;exact l.out⟩,⟨by refine qd_ ?_;refine a0g (cs := #[.slice none 0 0]) ?_ 0 _ rfl;refine qd_ ?_;exact y.out⟩,⟨qb_⟩⟩
 case round =>
 clear H'
 try clear c1
 try clear c2
 try clear c4
 try clear af
 try clear aI
 try clear aJ
 try clear am
 try clear aK
 try clear aL
 try clear b6
 try clear bR
 try clear bS
 try clear b7
 try clear bT
 try clear bU
 try clear bV
 try clear bW
 try clear aM aN aO
 try clear bq br bs
 try clear bk bl bm
 try clear bz
 try clear aP aQ aR
 try clear bt bu bv
 try clear bn bo bp
 try clear bA
 try clear Y
 try clear ah
 try clear ai
 obtain ⟨a,b,W,rfl,HA,aU,HO_326000,m,x,l,y,HB⟩ := hrel
 cases gk with
 | zero => exact absurd HA.out (by simp [a1e.l1])
 | succ k3 =>
 have H := HA.out
 clear HA
 simp only [a1e.l1] at H
 by_cases aZ : a < (l2.length : Int)
 rotate_left
 ·rw [if_neg aZ] at H
  have bY : decide (a < (l2.length : Int)) = false := decide_eq_false aZ
  clear aZ
  replace H := bm_ H
  obtain ⟨⟨cm,cn⟩,co,H⟩ := H
  replace H : (some (cm,cn)) = some (r1,r2) := H
  have dN := am_ co
  clear co
  simp only [Option.some.injEq,Prod.mk.injEq] at H
  obtain ⟨rfl,rfl⟩ := H
  have eC := aa.out
  have eD := D.out
  have eE := ab.out
  have eF := E.out
  have eG := ad.out
  have eH := ae.out
  obtain ⟨dO,dP,dQ⟩ := qz3_ l;obtain ⟨dR,dS,dT⟩ := qf3_ l
  have eI := aj.out
  have eJ := Z.out
  have eK := ak.out
  have eL := a0.out
  have dU : wr.cell? ⟨ac,0,none⟩ = some (W) := (bc_ y.out 0).trans rfl
  have dV := bf_ y.out 0
  obtain ⟨bD,bE,dy⟩ := Kd.a3c HO_326000.out
  subst dy
  go_wp2_with (first | ((with_reducible refine a0r (f := 31) rfl ?_);refine a2a (some 102) rfl rfl Try.func31 (by kernel_rfl) rfl #[.agg #[.slice A0 l0.length c0, .map (some J), .map (some K)], .int .i64 a3, .slice bD b.length bE] rfl ql_ ?_;(with_reducible refine (a1q.calls k3 _ _ l0 G ag J K gh_t316 a3 (fun k_ => some k_ = (.slice bD b.length bE : Value).ownBlock) (.slice bD b.length bE) b cm cn w _ ?s1 ?s2 aH.out ?s4 ?s5 ?s6 ?s7 ?s8 ?s9 dN.out).mono ?_);(case s1 => repeat (first | (with_reducible first | exact HB.out | apply la_ | apply ln_ | apply ld_ | refine ls_ ?_ d7.out | refine ls_ ?_ d8.out | refine ls_ ?_ d9.out | refine ls_ ?_ db.out) | exact HB.out));(case s2 => exact Kd.a7y b4j az.out qb_ (fun k_ hs_ => (fun e_ => Kd.a3j HO_326000.out k_ e_.symm) hs_));(case s4 => exact Kd.a7q rfl HO_326000.out);(case s5 => exact (qk_ m));(case s6 => exact (qk_ x));(case s7 => exact bP.out);(case s8 => exact (fun W_ hK_ e_ he_ => by obtain ⟨A_,c_,bF,bG,bH⟩ := bQ.out e_ he_;have HRm_ := am_ bH;exact ⟨A_,c_,bF,bG,(Kd.a7y b1j HRm_.out qb_ (fun k_ hs_ => (fun e_ => Kd.a3j HO_326000.out k_ e_.symm) hs_)) W_ hK_⟩));(case s9 => exact aA.out);rintro e fT ⟨fH,rfl,dv,hb,hkp⟩;refine ⟨_,rfl,?_⟩;replace m := am_ (a7b (qk_ m) hkp (fun hs_ => (fun e_ => (a8u HO_326000.out m.out) e_) hs_));replace x := am_ (a7b (qk_ x) hkp (fun hs_ => (fun e_ => (a8u HO_326000.out x.out) e_) hs_));replace l := am_ (a7b (qk_ l) hkp (fun hs_ => (fun e_ => (Kd.R_ne HO_326000.out l.out (by decide)) e_) hs_));replace y := am_ (a7b (qk_ y) hkp (fun hs_ => (fun e_ => (Kd.R_ne HO_326000.out y.out (by decide)) e_) hs_));have dc := am_ (Kd.a2f (ok' := fun k_ => True) dv (fun k_ hk_ => trivial));replace HB := am_ (hb);clear HO_326000;(try clear hb);(try clear hkp);(try clear dv)))
  go_ret2
  exact ⟨_,qx_,by (with_reducible repeat (first | apply Kd.a2n | apply Kd.a2o | apply Kd.a2i));exact dc.out,qb_⟩
 rw [if_pos aZ] at H
 have bY : decide (a < (l2.length : Int)) = true := decide_eq_true aZ
 clear aZ
 obtain ⟨dd,H⟩ := qid_ H
 obtain ⟨de,H⟩ := qid_ H
 have bI := am_ H
 clear H
 have b9 : 0 ≤ (a : Int) := ot_
 have ba : a < (l2.length : Int) := ot_
 obtain ⟨eM,dz,aw,ax,ay⟩ := a4h bi.out a b9 ba
 cases dz
 replace aw := qh_ HB aw
 replace ax := qh_ HB ax
 replace ay := qh_ HB ay
 replace b9 := eq_true b9
 replace ba := eq_true ba
 go_upto_region 16 with (first | ((with_reducible refine a0t (N := 20) rfl ?_);refine qev_ 20 #[.int .i64 0, .int .i64 0, .int .i64 0] 42 ?_;intro i hg fU hbox hb;replace HO_326000 := am_ (Kd.a5w (Kd.a6g (qr_ HO_326000) i (Nat.le_of_eq hg.symm)) hb);have B := am_ (hbox);have bb := qga_ hg;have eN := qga_ hg;replace HB := qbs_ hb;obtain ⟨q,a1⟩ := qnb_ hg m;replace m := qkb_ m hb;obtain ⟨r,a2⟩ := qnb_ hg x;replace x := qkb_ x hb;obtain ⟨s,a4⟩ := qnb_ hg l;replace l := qkb_ l hb;obtain ⟨u,a5⟩ := qnb_ hg y;replace y := qkb_ y hb;clear hb hbox hg;have eO := a1.out;have eP := q.out;have eQ := a2.out;have eR := r.out;have eS := a4.out;have eT := s.out;have eU := a5.out;have eV := u.out;obtain ⟨cp,cq,cr⟩ := qz3_ B;obtain ⟨ct,cu,cv⟩ := qf3_ B))
 (try simp only [Act.put,List.setIfInBounds_toArray,List.set_cons_zero,List.set_cons_succ])
 go_cut [93] (fun dW wc => ∃ (kq : Nat) (ar : Bool),dW = .bool ar ∧ Aside0 (a1e.j3 kq l0 a3 l4 a l2 (l2.length : Int) a ar G ag l0 b ((a0b l2 a).f0) ((a0b l2 a).f1) ((a0b l2 a).f2) = some (r1,r2)) ∧ Aside0 (kq ≤ k3) ∧ Aside0 (Kd.R k42 42 wc w.heap.size (fun k_ => k_ ≠ i) W b) ∧ Aside0 (wc.heap[J]? = some (a1i (Value.int .i64) G)) ∧ Aside0 (wc.heap[K]? = some (a1i (fun e_ : List (S56) × Value => e_.2) gh_t316)) ∧ Aside0 (wc.heap[ao]? = some (.cells #[(.slice A0 l0.length c0), .map (some J), .map (some K)] 62 (0,0))) ∧ Aside0 (wc.heap[ac]? = some (.cells #[W] 24 (0,0))) ∧ Aside0 (wc.heap[i]? = some (.cells #[.int .i64 ((a0b l2 a).f0), .int .i64 ((a0b l2 a).f1), .int .i64 ((a0b l2 a).f2)] 42 (0,0))) ∧ Aside0 (Below w.heap.size w wc))
 case first =>
  have H := bI.out
  clear bI
  by_cases b0 : ((a0b l2 a).f1) < a3
  rotate_left
  ·rw [if_neg b0] at H
   have al : decide (((a0b l2 a).f1) < a3) = false := decide_eq_false b0
   clear b0
   (first | rw [al] | (simp only [a4j,a4v];rw [al]) | skip)
   have H' := am_ H
   clear H
   have eW := a1.out
   have eX := q.out
   have eY := a2.out
   have eZ := r.out
   have f4 := a4.out
   have f5 := s.out
   have f6 := a5.out
   have f7 := u.out
   obtain ⟨cw,cx,cy⟩ := qz3_ B;obtain ⟨cz,cA,cB⟩ := qf3_ B
   go_wp2
   go_meet
   case rel => exact ⟨_,(false),qs_,H',⟨by have := an.out;have := ap.out;have := aU.out;first | omega | exact Nat.le_refl _⟩,⟨by (with_reducible repeat (first | apply Kd.a2n | apply Kd.a2o | apply Kd.a2i));exact Kd.a2f (Kd.a4g (p := ⟨i,2,none⟩) (Kd.a4g (p := ⟨i,1,none⟩) (Kd.a4g (p := ⟨i,0,none⟩) (Kd.a2f HO_326000.out (fun k_ hk => (⟨hk,hk.2⟩ : _ ∧ k_ ≠ i))) (fun _ hk => hk.2) (.int .i64 ((a0b l2 a).f0))) (fun _ hk => hk.2) (.int .i64 ((a0b l2 a).f1))) (fun _ hk => hk.2) (.int .i64 ((a0b l2 a).f2))) (fun _ hk => hk.1.2)⟩,⟨by refine qd_ ?_;refine a0e ?_ q.out _;refine qd_ ?_;refine a0e ?_ q.out _;refine qd_ ?_;refine a0e ?_ q.out _;refine qd_ ?_;exact m.out⟩,⟨by refine qd_ ?_;refine a0e ?_ r.out _;refine qd_ ?_;refine a0e ?_ r.out _;refine qd_ ?_;refine a0e ?_ r.out _;refine qd_ ?_;exact x.out⟩,⟨by refine qdj_ ?_ s;refine qdj_ ?_ s;refine qdj_ ?_ s;refine qd_ ?_;exact l.out⟩,⟨by refine qdj_ ?_ u;refine qdj_ ?_ u;refine qdj_ ?_ u;refine qd_ ?_;exact y.out⟩,⟨by refine qd_ ?_;refine a0g (cs := #[.int .i64 ((a0b l2 a).f0), .int .i64 ((a0b l2 a).f1), .int .i64 0]) ?_ 2 _ rfl;refine qd_ ?_;refine a0g (cs := #[.int .i64 ((a0b l2 a).f0), .int .i64 0, .int .i64 0]) ?_ 1 _ rfl;refine qd_ ?_;refine a0g (cs := #[.int .i64 0, .int .i64 0, .int .i64 0]) ?_ 0 _ rfl;refine qd_ ?_;exact B.out⟩,⟨qb_⟩⟩
  rw [if_pos b0] at H
  have al : decide (((a0b l2 a).f1) < a3) = true := decide_eq_true b0
  clear b0
  (first | rw [al] | (simp only [a4j,a4v];rw [al]) | skip)
  replace H := bm_ H
  obtain ⟨dA,cC,H⟩ := H
  have dw := am_ cC
  clear cC
  by_cases bB : dA = true
  ·subst bB
   replace H := qip_ H
   have H' := am_ H
   clear H
   have f8 := a1.out
   have f9 := q.out
   have fa := a2.out
   have fb := r.out
   have fc := a4.out
   have fd := s.out
   have fe := a5.out
   have ff := u.out
   obtain ⟨cD,cE,cF⟩ := qz3_ B;obtain ⟨cG,cH,cI⟩ := qf3_ B
   go_wp2_with (first | (go_at_call 48;(with_reducible refine (a2b.calls k3 _ _ l4 ((a0b l2 a).f0) true _ ?s1 cd.out dw.out).mono ?_);(case s1 => exact Kd.a2s bj.out qb_);rintro e w' ⟨rfl,⟨nd,rfl⟩⟩))
   go_meet
   case rel => exact ⟨_,(false),qs_,H',⟨by have := an.out;have := ap.out;have := aU.out;first | omega | exact Nat.le_refl _⟩,⟨by (with_reducible repeat (first | apply Kd.a2n | apply Kd.a2o | apply Kd.a2i));exact Kd.a2f (Kd.a4g (p := ⟨i,2,none⟩) (Kd.a4g (p := ⟨i,1,none⟩) (Kd.a4g (p := ⟨i,0,none⟩) (Kd.a2f HO_326000.out (fun k_ hk => (⟨hk,hk.2⟩ : _ ∧ k_ ≠ i))) (fun _ hk => hk.2) (.int .i64 ((a0b l2 a).f0))) (fun _ hk => hk.2) (.int .i64 ((a0b l2 a).f1))) (fun _ hk => hk.2) (.int .i64 ((a0b l2 a).f2))) (fun _ hk => hk.1.2)⟩,⟨by refine qd_ ?_;refine a0e ?_ q.out _;refine qd_ ?_;refine a0e ?_ q.out _;refine qd_ ?_;refine a0e ?_ q.out _;refine qd_ ?_;exact m.out⟩,⟨by refine qd_ ?_;refine a0e ?_ r.out _;refine qd_ ?_;refine a0e ?_ r.out _;refine qd_ ?_;refine a0e ?_ r.out _;refine qd_ ?_;exact x.out⟩,⟨by refine qdj_ ?_ s;refine qdj_ ?_ s;refine qdj_ ?_ s;refine qd_ ?_;exact l.out⟩,⟨by refine qdj_ ?_ u;refine qdj_ ?_ u;refine qdj_ ?_ u;refine qd_ ?_;exact y.out⟩,⟨by refine qd_ ?_;refine a0g (cs := #[.int .i64 ((a0b l2 a).f0), .int .i64 ((a0b l2 a).f1), .int .i64 0]) ?_ 2 _ rfl;refine qd_ ?_;refine a0g (cs := #[.int .i64 ((a0b l2 a).f0), .int .i64 0, .int .i64 0]) ?_ 1 _ rfl;refine qd_ ?_;refine a0g (cs := #[.int .i64 0, .int .i64 0, .int .i64 0]) ?_ 0 _ rfl;refine qd_ ?_;exact B.out⟩,⟨qb_⟩⟩
  replace bB := be_ bB
  subst bB
  replace H := qin_ H
  obtain ⟨df,H⟩ := qid_ H
  replace H := bm_ H
  obtain ⟨cJ,cK,H⟩ := H
  have dX := am_ cK
  clear cK
  have H' := am_ H
  clear H
  have fg := a1.out
  have fh := q.out
  have fi := a2.out
  have fj := r.out
  have fk := a4.out
  have fl := s.out
  have fm := a5.out
  have fn := u.out
  obtain ⟨cL,cM,cN⟩ := qz3_ B;obtain ⟨cO,cP,cQ⟩ := qf3_ B
  go_wp2_with (first | (go_at_call 48;(with_reducible refine (a2b.calls k3 _ _ l4 ((a0b l2 a).f0) false _ ?s1 cd.out dw.out).mono ?_);(case s1 => exact Kd.a2s bj.out qb_);rintro e w' ⟨rfl,⟨nd,rfl⟩⟩;have bc : 0 ≤ (a : Int) := ot_;have bd : a < (l0.length : Int) := ot_;obtain ⟨aD,dY,dZ,e0,e1,dB,A,L,O,P,T,b1,b2,b3,b4⟩ := a5j az.out a bc bd;cases dB;have a6 : aD.block ≠ i := Nat.ne_of_lt (Nat.lt_of_lt_of_le (by have := World.block_lt_of_cell? _ _ A;first | rwa [add_block] at this | exact this) bb.out);have a7 : aD.block ≠ i := Nat.ne_of_lt (Nat.lt_of_lt_of_le (by have := World.block_lt_of_cell? _ _ A;first | rwa [add_block] at this | exact this) bb.out);have a8 : aD.block ≠ i := Nat.ne_of_lt (Nat.lt_of_lt_of_le (by have := World.block_lt_of_cell? _ _ A;first | rwa [add_block] at this | exact this) bb.out);replace A := qh_ HB A;replace L := qh_ HB L;replace O := qh_ HB O;replace P := qh_ HB P;replace T := qh_ HB T;have cb := am_ b2;have cc := am_ b1;clear b2 b1;have dF := am_ b4;have dG := am_ b3;clear b4 b3;replace A := (cell_far (p := ⟨i,0,none⟩) (qn_ a6) (.int .i64 ((a0b l2 a).f0))).trans A;replace L := (cell_far (p := ⟨i,0,none⟩) (qn_ a6) (.int .i64 ((a0b l2 a).f0))).trans L;replace O := (cell_far (p := ⟨i,0,none⟩) (qn_ a6) (.int .i64 ((a0b l2 a).f0))).trans O;replace P := (cell_far (p := ⟨i,0,none⟩) (qn_ a6) (.int .i64 ((a0b l2 a).f0))).trans P;replace T := (cell_far (p := ⟨i,0,none⟩) (qn_ a6) (.int .i64 ((a0b l2 a).f0))).trans T;replace A := (cell_far (p := ⟨i,1,none⟩) (qn_ a7) (.int .i64 ((a0b l2 a).f1))).trans A;replace L := (cell_far (p := ⟨i,1,none⟩) (qn_ a7) (.int .i64 ((a0b l2 a).f1))).trans L;replace O := (cell_far (p := ⟨i,1,none⟩) (qn_ a7) (.int .i64 ((a0b l2 a).f1))).trans O;replace P := (cell_far (p := ⟨i,1,none⟩) (qn_ a7) (.int .i64 ((a0b l2 a).f1))).trans P;replace T := (cell_far (p := ⟨i,1,none⟩) (qn_ a7) (.int .i64 ((a0b l2 a).f1))).trans T;replace A := (cell_far (p := ⟨i,2,none⟩) (qn_ a8) (.int .i64 ((a0b l2 a).f2))).trans A;replace L := (cell_far (p := ⟨i,2,none⟩) (qn_ a8) (.int .i64 ((a0b l2 a).f2))).trans L;replace O := (cell_far (p := ⟨i,2,none⟩) (qn_ a8) (.int .i64 ((a0b l2 a).f2))).trans O;replace P := (cell_far (p := ⟨i,2,none⟩) (qn_ a8) (.int .i64 ((a0b l2 a).f2))).trans P;replace T := (cell_far (p := ⟨i,2,none⟩) (qn_ a8) (.int .i64 ((a0b l2 a).f2))).trans T;clear a6 a7 a8;replace bc := eq_true bc;replace bd := eq_true bd;obtain ⟨dC,cR,dD⟩ := Kd.a3c HO_326000.out;subst dD) | (go_at_call 40;(with_reducible refine (a2l.calls k3 _ _ ((a0a l0 a).f3)  ac dC cR b ao (some aD) c0 l0 G ag J K gh_t316 cJ _ ?s1 cc.out ?s3 ?s4 ?s5 aH.out ?s7 ?s8 ?s9 ?s10 ?s11 ?s12 ?s13 ?s14 ?s15 ?s16 ?s17 ?s18 dX.out).mono ?_);(case s1 => exact Kd.a2s cb.out qb_);(case s3 => refine (Kd.a0s (e := 42) (base := w.heap.size) (ok := fun k_ => (True ∧ k_ ≠ i)) (n := b.length) (c := cR) ?_).2.2;exact (by (with_reducible repeat (first | apply Kd.a2n | apply Kd.a2o | apply Kd.a2i));exact (Kd.a2f (Kd.a4g (p := ⟨i,2,none⟩) (Kd.a4g (p := ⟨i,1,none⟩) (Kd.a4g (p := ⟨i,0,none⟩) (Kd.a2f HO_326000.out (fun k_ hk => (⟨hk,hk.2⟩ : _ ∧ k_ ≠ i))) (fun _ hk => hk.2) (.int .i64 ((a0b l2 a).f0))) (fun _ hk => hk.2) (.int .i64 ((a0b l2 a).f1))) (fun _ hk => hk.2) (.int .i64 ((a0b l2 a).f2))) (fun _ h_ => h_.1))));(case s4 => exact (Kd.a0s HO_326000.out).2.1);(case s5 => exact Kd.a2s az.out qb_);(case s7 => exact (by refine qdj_ ?_ u;refine qdj_ ?_ u;refine qdj_ ?_ u;refine qd_ ?_;exact y.out));(case s8 => exact (by refine qdj_ ?_ s;refine qdj_ ?_ s;refine qdj_ ?_ s;refine qd_ ?_;exact l.out));(case s9 => exact ae.out);(case s10 => exact (by refine qd_ ?_;refine a0e ?_ q.out _;refine qd_ ?_;refine a0e ?_ q.out _;refine qd_ ?_;refine a0e ?_ q.out _;refine qd_ ?_;exact m.out));(case s11 => exact (by refine qd_ ?_;refine a0e ?_ r.out _;refine qd_ ?_;refine a0e ?_ r.out _;refine qd_ ?_;refine a0e ?_ r.out _;refine qd_ ?_;exact x.out));(case s12 => exact bP.out);(case s13 => exact (fun e_ he_ => by obtain ⟨A_,c_,bF,bG,bH⟩ := bQ.out e_ he_;have HRm_ := am_ bH;exact ⟨A_,c_,bF,bG,by exact Kd.a2s HRm_.out qb_⟩));(case s14 => exact aA.out);(case s15 => exact Z.out);(case s16 => exact D.out);(case s17 => exact a0.out);(case s18 => exact E.out);rintro e w' ⟨rfl,⟨nd,rfl⟩⟩))
  go_meet
  case rel => exact ⟨_,(!cJ),qs_,H',⟨by have := an.out;have := ap.out;have := aU.out;first | omega | exact Nat.le_refl _⟩,⟨by (with_reducible repeat (first | apply Kd.a2n | apply Kd.a2o | apply Kd.a2i));exact Kd.a2f (Kd.a4g (p := ⟨i,2,none⟩) (Kd.a4g (p := ⟨i,1,none⟩) (Kd.a4g (p := ⟨i,0,none⟩) (Kd.a2f HO_326000.out (fun k_ hk => (⟨hk,hk.2⟩ : _ ∧ k_ ≠ i))) (fun _ hk => hk.2) (.int .i64 ((a0b l2 a).f0))) (fun _ hk => hk.2) (.int .i64 ((a0b l2 a).f1))) (fun _ hk => hk.2) (.int .i64 ((a0b l2 a).f2))) (fun _ hk => hk.1.2)⟩,⟨by refine qd_ ?_;refine a0e ?_ q.out _;refine qd_ ?_;refine a0e ?_ q.out _;refine qd_ ?_;refine a0e ?_ q.out _;refine qd_ ?_;exact m.out⟩,⟨by refine qd_ ?_;refine a0e ?_ r.out _;refine qd_ ?_;refine a0e ?_ r.out _;refine qd_ ?_;refine a0e ?_ r.out _;refine qd_ ?_;exact x.out⟩,⟨by refine qdj_ ?_ s;refine qdj_ ?_ s;refine qdj_ ?_ s;refine qd_ ?_;exact l.out⟩,⟨by refine qdj_ ?_ u;refine qdj_ ?_ u;refine qdj_ ?_ u;refine qd_ ?_;exact y.out⟩,⟨by refine qd_ ?_;refine a0g (cs := #[.int .i64 ((a0b l2 a).f0), .int .i64 ((a0b l2 a).f1), .int .i64 0]) ?_ 2 _ rfl;refine qd_ ?_;refine a0g (cs := #[.int .i64 ((a0b l2 a).f0), .int .i64 0, .int .i64 0]) ?_ 1 _ rfl;refine qd_ ?_;refine a0g (cs := #[.int .i64 0, .int .i64 0, .int .i64 0]) ?_ 0 _ rfl;refine qd_ ?_;exact B.out⟩,⟨qb_⟩⟩
 case rest =>
 clear bI
 try clear c1
 try clear c2
 try clear c4
 try clear af
 try clear aI
 try clear aJ
 try clear am
 try clear aK
 try clear aL
 try clear b6
 try clear bR
 try clear bS
 try clear b7
 try clear bT
 try clear bU
 try clear bV
 try clear bW
 try clear bY
 try clear dd
 try clear de
 try clear al
 try clear bB
 try clear df
 try clear aM aN aO
 try clear bq br bs
 try clear bk bl bm
 try clear bz
 try clear cp cq cr
 try clear cD cE cF
 try clear cL cM cN
 try clear cw cx cy
 try clear aP aQ aR
 try clear bt bu bv
 try clear bn bo bp
 try clear bA
 try clear ct cu cv
 try clear cG cH cI
 try clear cO cP cQ
 try clear cz cA cB
 try clear Y
 try clear aw
 try clear ax
 try clear ay
 try clear A
 try clear L
 try clear O
 try clear P
 try clear T
 try clear ah
 try clear b9
 try clear bc
 try clear ai
 try clear ba
 try clear bd
 obtain ⟨kq,ar,rfl,HA,be,HO_326000,m,x,l,y,B,HB⟩ := hcut
 cases kq with
 | zero => exact absurd HA.out (by simp [a1e.j3])
 | succ bJ =>
 have H := HA.out
 clear HA
 simp only [a1e.j3] at H
 by_cases bZ : ar = true
 rotate_left
 ·replace bZ := be_ bZ
  subst bZ
  replace H := qin_ H
  have H' := am_ H
  clear H
  go_wp2
  go_roundg bJ
  case measure => have := an.out;have := ap.out;have := aU.out;have := be.out;omega
  case rel => exact ⟨(wrap64 (a + 1)),(b),(W),qs_,H',⟨by have := an.out;have := ap.out;have := aU.out;have := be.out;omega⟩,⟨by (with_reducible repeat (first | apply Kd.a2n | apply Kd.a2o | apply Kd.a2i));exact Kd.a2f HO_326000.out (fun _ hk => trivial)⟩,⟨qk_ m⟩,⟨qk_ x⟩,⟨qk_ l⟩,⟨qk_ y⟩,⟨qb_⟩⟩
 subst bZ
 replace H := qip_ H
 obtain ⟨fo,H⟩ := qid_ H
 obtain ⟨fp,H⟩ := qid_ H
 obtain ⟨bK,au⟩ : ∃ y_ : List (S42),y_ = (b.set (a : Int).toNat (⟨((a0b l2 a).f0),((a0b l2 a).f1),((a0b l2 a).f2)⟩ : S42)) := ⟨_,rfl⟩
 replace H : (a1e.l1 bJ l0 a3 l4 l2 (l2.length : Int) (wrap64 (a + 1)) G ag l0 bK) = some (r1,r2) := by first | (rw [au];with_reducible exact H) | (have aS := (Option.bind_some _ _).symm.trans H;rw [au];with_reducible exact aS) | (have aS := (Option.bind_some _ _).symm.trans H;with_reducible exact aS) | with_reducible exact H | (rw [au];exact H) | exact H
 have dg := am_ au
 clear au
 have H' := am_ H
 clear H
 have fq := aj.out
 have fr := Z.out
 have fs := ak.out
 have ft := a0.out
 have fu := ae.out
 have fv := ad.out
 have fw := u.out
 have fx := a5.out
 have e2 : wc.cell? ⟨ac,0,none⟩ = some (W) := (bc_ y.out 0).trans rfl
 have e3 := bf_ y.out 0
 have fy := a1.out
 have fz := q.out
 have fA := a2.out
 have fB := r.out
 have fC := a4.out
 have fD := s.out
 obtain ⟨e4,e5,e6⟩ := qz3_ B;obtain ⟨e7,e8,e9⟩ := qf3_ B
 have cS : 0 ≤ (a : Int) := ot_
 have cT : (a : Int) < ((b.length : Int) : Int) := ot_
 obtain ⟨X,bf,cU,cV,dE,fI,cW⟩ := Kd.a9a HO_326000.out (by omega)
 (first | cases cU | (injection cU with ea_ en_ ec_;(first | subst ea_ | (injection ea_ with ea_;subst ea_));subst ec_;clear en_))
 have bL := am_ cV
 have fJ := am_ cW
 clear cV dE cW
 obtain ⟨fK,dh,cX,aE,aF⟩ := Kd.a5s HO_326000.out z42 (a : Int) cS cT
 obtain rfl := a4x cX
 have ea : wc.cell? ⟨X,(a : Int).toNat * 3,none⟩ = some (.int .i64 ((a0b b a).f0)) := aE 0 _ rfl
 have eb : wc.cell? ⟨X,(a : Int).toNat * 3 + 1,none⟩ = some (.int .i64 ((a0b b a).f1)) := aE 1 _ rfl
 have ec : wc.cell? ⟨X,(a : Int).toNat * 3 + 2,none⟩ = some (.int .i64 ((a0b b a).f2)) := aE 2 _ rfl
 have ed : wc.frozen? ⟨X,(a : Int).toNat * 3,none⟩ = false := aF 0
 have ee : wc.frozen? ⟨X,(a : Int).toNat * 3 + 1,none⟩ = false := aF 1
 have ef : wc.frozen? ⟨X,(a : Int).toNat * 3 + 2,none⟩ = false := aF 2
 clear dh aE aF cX
 replace cS := eq_true cS
 replace cT := eq_true cT
 have cY := am_ (show Kd.R k42 42 wc w.heap.size (fun k_ => k_ ≠ i) (.slice (some ⟨X,0,none⟩) b.length bf) b from (qr_ HO_326000))
 obtain ⟨fL,ca,cZ,av,aG⟩ := Kd.a5s cY.out z42 (a : Int) (ot_) (by have h_ : (a : Int) < ((b.length : Int) : Int) := ot_;first | exact h_ | (have e_ := (Kd.a0s HO_326000.out).1;omega) | simpa using h_)
 obtain rfl := a4x cZ
 have bM := Kd.a8g cY.out (a : Int) (ot_) (by have h_ : (a : Int) < ((b.length : Int) : Int) := ot_;first | exact h_ | (have e_ := (Kd.a0s HO_326000.out).1;omega) | simpa using h_) (seg := [.int .i64 ((a0b l2 a).f0), .int .i64 ((a0b l2 a).f1), .int .i64 ((a0b l2 a).f2)]) (j := 0) ca av (show 3 ≤ 3 from by decide) (x' := (⟨((a0b l2 a).f0),((a0b l2 a).f1),((a0b l2 a).f2)⟩ : S42)) (a4p _ _ _ (⟨((a0b l2 a).f0),((a0b l2 a).f1),((a0b l2 a).f2)⟩ : S42) ) (fun _ hk => hk)
 have d0 := av 0 _ rfl
 (try simp only [show (k42).sz = 3 from rfl,Nat.mul_one,Nat.add_zero] at d0)
 have d1 := aG 0
 (try simp only [show (k42).sz = 3 from rfl,Nat.mul_one,Nat.add_zero] at d1)
 have d2 := av 1 _ rfl
 (try simp only [show (k42).sz = 3 from rfl,Nat.mul_one,Nat.add_zero] at d2)
 have d3 := aG 1
 (try simp only [show (k42).sz = 3 from rfl,Nat.mul_one,Nat.add_zero] at d3)
 have d4 := av 2 _ rfl
 (try simp only [show (k42).sz = 3 from rfl,Nat.mul_one,Nat.add_zero] at d4)
 have d5 := aG 2
 (try simp only [show (k42).sz = 3 from rfl,Nat.mul_one,Nat.add_zero] at d5)
 clear ca av aG cZ
 go_wp2_with (first | ((with_reducible refine a5f (t := 42) (p := 97) rfl ?_);refine a4w (t := 42) (p := 97) (v := ?vo_w89) (w1 := (((wc.setCell ⟨X,(a : Int).toNat * 3,none⟩ (.int .i64 ((a0b l2 a).f0))).setCell ⟨X,(a : Int).toNat * 3 + 1,none⟩ (.int .i64 ((a0b l2 a).f1))).setCell ⟨X,(a : Int).toNat * 3 + 2,none⟩ (.int .i64 ((a0b l2 a).f2)))) ?hg ?ho ?hn ?hr ?_;(case ho => rfl);(case hg => rfl);(case hn => rfl);(case hr => exact qq_);intro d6 hw;have hg : wc.grownBy d6 (some X) := (by rw [hw];exact bM.2);have hp_ : Kd.R k42 42 d6 w.heap.size (fun k_ => k_ ≠ i) (.slice (some ⟨X,0,none⟩) b.length bf) bK := (by rw [hw,dg.out];exact bM.1);clear bM;replace m := am_ (a4k (g := J) (o := a1i (Value.int .i64) G) (qk_ m) hg (a8u HO_326000.out m.out));replace x := am_ (a4k (g := K) (o := a1i (fun e_ : List (S56) × Value => e_.2) gh_t316) (qk_ x) hg (a8u HO_326000.out x.out));replace l := am_ (a4k (g := ao) (o := .cells #[.slice A0 l0.length c0, .map (some J), .map (some K)] 62 (0,0)) (qk_ l) hg (Kd.R_ne HO_326000.out l.out (by decide)));replace y := am_ (a4k (g := ac) (o := .cells #[.slice (some ⟨X,0,none⟩) b.length bf] 24 (0,0)) (qk_ y) hg (Kd.R_ne HO_326000.out y.out (by decide)));replace B := am_ (a4k (g := i) (o := .cells #[.int .i64 ((a0b l2 a).f0), .int .i64 ((a0b l2 a).f1), .int .i64 ((a0b l2 a).f2)] 42 (0,0)) (qk_ B) hg (Kd.a8k HO_326000.out (fun _ hk => hk)));replace HO_326000 := am_ (hp_);replace HB := am_ ((by rw [hw];exact ls_ (ls_ (ls_ (HB.out) bL.out) bL.out) bL.out : Below w.heap.size w d6));clear hg hw hp_))
 go_roundg bJ
 case measure => have := an.out;have := ap.out;have := aU.out;have := be.out;omega
 case rel => exact ⟨(wrap64 (a + 1)),(bK),(.slice (some ⟨X,0,none⟩) b.length bf),qs_,H',⟨by have := an.out;have := ap.out;have := aU.out;have := be.out;omega⟩,⟨by (with_reducible repeat (first | apply Kd.a2n | apply Kd.a2o | apply Kd.a2i));exact Kd.a2f HO_326000.out (fun _ hk => trivial)⟩,⟨qk_ m⟩,⟨qk_ x⟩,⟨qk_ l⟩,⟨qk_ y⟩,⟨qb_⟩⟩
end Go.Proofs.Ytheibjkjmkanoaa.Px
