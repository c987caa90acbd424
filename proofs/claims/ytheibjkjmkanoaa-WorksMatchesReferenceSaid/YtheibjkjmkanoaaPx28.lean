/- Contracts of Go functions, printed. Conditions: as each theorem states. -/
import Derived.Test.YtheibjkjmkanoaaPx0
import Derived.Test.YtheibjkjmkanoaaPx24
import Derived.Test.YtheibjkjmkanoaaPx27
namespace Go.Proofs.Ytheibjkjmkanoaa.Px
open Go.Proofs.Ytheibjkjmkanoaa.Given
open Go.RowKit Go.Proofs.YtheibjkjmkanoaaW.PrintWords Go.Proofs.YtheibjkjmkanoaaW.PrintLast Go.Proofs.YtheibjkjmkanoaaW.PrintMore
attribute [local go_sem] a3r a3s a4b a4c a3f a3g a3t a3u
set_option linter.unusedVariables false
set_option linter.unusedSimpArgs false
mutual
def a0y.l0 : Nat → List (S51) → List (S58) → Int → List (S42) → List (S42) → Int → Option ((List (S42)) × Int)
 | 0,_,_,_,_,_,_ => none
 | k + 1,x0,x1,x2,x3,b,a => if a < (x0.length : Int) then (if 0 ≤ a then (if a < (x3.length : Int) then (if a < (b.length : Int) then (a0y.l0 k x0 x1 x2 x3 (b.set (a : Int).toNat (⟨(a0b x3 a).f0,(a0b x3 a).f1,(a0b x3 a).f2⟩ : S42)) (wrap64 (a + 1))) else (none)) else (none)) else (none)) else (a0y.l1 k x0 x1 x2 b 0)
def a0y.l1 : Nat → List (S51) → List (S58) → Int → List (S42) → Int → Option ((List (S42)) × Int)
 | 0,_,_,_,_,_ => none
 | k + 1,x0,x1,x2,c,b => if b < (x0.length : Int) then (if 0 ≤ b then (if b < (c.length : Int) then (if ((a0b c b).f2) > 0 then (a0y.l1 k x0 x1 x2 c (wrap64 (b + 1))) else ((a1g.f k x0 x1 b x2 c).bind fun a => (if a.2.2.2 = 0 then (a0y.l1 k x0 x1 x2 (c.set (b : Int).toNat (⟨a.1,a.2.1,a.2.2.1⟩ : S42)) (wrap64 (b + 1))) else (some (([] : List (S42)),a.2.2.2))))) else (none)) else (none)) else (some (c,0))
end
def a0y.f (k : Nat) (l0 : List (S51)) (l1 : List (S58)) (a2 : Int) (l3 : List (S42)) : Option ((List (S42)) × Int) := if 0 ≤ (l0.length : Int) then (if ((l0.length : Int) : Int).toNat ≤ 11728124029610 then (a0y.l0 k l0 l1 a2 l3 (List.replicate ((l0.length : Int) : Int).toNat z42) 0) else (none)) else (none)
theorem a0y.a1u : ∀ k,(∀ y0 y1 y2 y3 y4 y5,LeO (a0y.l0 k y0 y1 y2 y3 y4 y5) (a0y.l0 (k + 1) y0 y1 y2 y3 y4 y5)) ∧ (∀ y0 y1 y2 y3 y4,LeO (a0y.l1 k y0 y1 y2 y3 y4) (a0y.l1 (k + 1) y0 y1 y2 y3 y4))
 | 0 => ⟨fun _ _ _ _ _ _ r h => by simp [a0y.l0] at h,fun _ _ _ _ _ r h => by simp [a0y.l1] at h⟩
 | k + 1 => by
  obtain ⟨a,b⟩ := a0y.a1u k
  refine ⟨?_,?_⟩ <;> intros <;> (first | unfold a0y.l0 | unfold a0y.l1) <;> with_reducible (repeat' first | apply a | apply b | apply a1g.mono | apply LeO.refl | apply LeO.none | apply LeO.ite | refine LeO.bind ?_ (fun _ => ?_))
theorem a0y.mono : ∀ a0 a1 a2 a3 k,LeO (a0y.f k a0 a1 a2 a3) (a0y.f (k + 1) a0 a1 a2 a3) := by
 intro a0 a1 a2 a3 k
 obtain ⟨a,b⟩ := a0y.a1u k
 unfold a0y.f
 with_reducible (repeat' first | apply a | apply b | apply a1g.mono | apply LeO.refl | apply LeO.none | apply LeO.ite | refine LeO.bind ?_ (fun _ => ?_))
set_option maxHeartbeats 8000000 in
set_option maxRecDepth 100000 in
theorem a0y.calls (k : Nat) (A0 : Option Addr) (c0 : Nat) (l0 : List (S51)) (A1 : Option Addr) (c1 : Nat) (l1 : List (S58)) (a2 : Int) (A3 : Option Addr) (c3 : Nat) (l3 r1 : List (S42)) (r2 : Int) (w : World) (bj : Kd.C k51 w A0 l0.length l0) (bk : l0.length ≤ c0) (bl : Kd.C k58 w A1 l1.length l1) (bm : l1.length ≤ c1) (bn : Kd.C k42 w A3 l3.length l3) (bo : l3.length ≤ c3) (h : a0y.f k l0 l1 a2 l3 = some (r1,r2)) :
  Calls Try.prog 32 #[.slice A0 l0.length c0, .slice A1 l1.length c1, .int .i64 a2, .slice A3 l3.length c3] w fun e w' => ∃ bp : Value,e = .returned (.tuple #[bp, .int .i64 r2]) ∧ Kd.R k42 42 w' w.heap.size (fun _ => True) bp r1 ∧ Below w.heap.size w w' := by
 have cm := Try.underlying42
 have bq := am_ bj
 have br := am_ bk
 clear bj bk
 have bs := am_ bl
 have bt := am_ bm
 clear bl bm
 have bD := am_ bn
 have cB := am_ bo
 clear bn bo
 have HB := am_ (Below.refl w.heap.size w)
 have H : (if 0 ≤ (l0.length : Int) then (if ((l0.length : Int) : Int).toNat ≤ 11728124029610 then (a0y.l0 k l0 l1 a2 l3 (List.replicate ((l0.length : Int) : Int).toNat z42) 0) else (none)) else (none)) = some (r1,r2) := h
 clear h
 by_cases c5 : 0 ≤ (l0.length : Int)
 rotate_left
 ·rw [if_neg c5] at H
  exact absurd H (by simp)
 rw [if_pos c5] at H
 have au := eq_true c5
 have av : decide (0 ≤ (l0.length : Int)) = true := decide_eq_true c5
 clear c5
 by_cases c6 : ((l0.length : Int) : Int).toNat ≤ 11728124029610
 rotate_left
 ·rw [if_neg c6] at H
  exact absurd H (by simp)
 rw [if_pos c6] at H
 have aw := eq_true c6
 have ax : decide (((l0.length : Int) : Int).toNat ≤ 11728124029610) = true := decide_eq_true c6
 clear c6
 obtain ⟨ay,B⟩ : ∃ y_ : List (S42),y_ = (List.replicate ((l0.length : Int) : Int).toNat z42) := ⟨_,rfl⟩
 replace H : (a0y.l0 k l0 l1 a2 l3 ay 0) = some (r1,r2) := by first | (rw [B];with_reducible exact H) | (have A := (Option.bind_some _ _).symm.trans H;rw [B];with_reducible exact A) | (have A := (Option.bind_some _ _).symm.trans H;with_reducible exact A) | with_reducible exact H | (rw [B];exact H) | exact H
 have ao := am_ B
 clear B
 have H' := am_ H
 clear H
 go_enter Try.func32,Try.ntmps32
 go_wp2_with (first | ((with_reducible refine a0s (N := 17) rfl ?_);refine Kd.b1e k42 _ 42 rfl (N := 17) rfl 24 _ _ rfl (l0.length : Int) rfl rfl Try.underlying24 (.agg #[(.int .i64 0),(.int .i64 0),(.int .i64 0)]) 24 a7x rfl (by decide) (by omega) z42 (ok := fun _ => True) (okp := fun _ => True) (a4p _ _ _ z42 ) (fun _ hk => hk) trivial (ot_) (Nat.le_trans (Nat.mul_le_mul_right _ (ot_ : (l0.length : Int).toNat ≤ 11728124029610)) (by omega)) (Below.refl _ _) (Nat.le_refl _) ?_;intro az w7 ac hb hg_ hnew_;clear hg_ hnew_;(first | rw [← ao.out] at ac | (simp only [Int.reduceToNat] at ac;rw [← ao.out] at ac));have b5 := am_ (Kd.a3d ac (a0w qb_));replace HB := qbs_ hb;clear hb ac))
 go_loopg [11] k (fun kq bE w' => ∃ (i : List (S42)) (b : Int),bE = .int .i64 b ∧ Aside0 (a0y.l0 kq l0 l1 a2 l3 i b = some (r1,r2)) ∧ Aside0 (kq ≤ k) ∧ Aside0 (Kd.R k42 42 w' w.heap.size (fun _ => True) az i) ∧ Aside0 (Below w.heap.size w w'))
 case atStart => exact ⟨(ay),(0),qs_,H',⟨Nat.le_refl _⟩,⟨by (with_reducible repeat (first | apply Kd.a2a | apply Kd.a2b | apply Kd.a2f));exact b5.out⟩,⟨qb_⟩⟩
 case round =>
 clear H'
 try clear c1
 try clear c3
 try clear au
 try clear av
 try clear aw
 try clear ax
 obtain ⟨i,b,rfl,HA,a6,HO_10,HB⟩ := hrel
 cases gk with
 | zero => exact absurd HA.out (by simp [a0y.l0])
 | succ k1 =>
 have H := HA.out
 clear HA
 simp only [a0y.l0] at H
 by_cases c9 : b < (l0.length : Int)
 ·rw [if_pos c9] at H
  have aA : decide (b < (l0.length : Int)) = true := decide_eq_true c9
  clear c9
  obtain ⟨b6,H⟩ := qid_ H
  obtain ⟨b7,H⟩ := qid_ H
  obtain ⟨b8,H⟩ := qid_ H
  obtain ⟨ai,D⟩ : ∃ y_ : List (S42),y_ = (i.set (b : Int).toNat (⟨(a0b l3 b).f0,(a0b l3 b).f1,(a0b l3 b).f2⟩ : S42)) := ⟨_,rfl⟩
  replace H : (a0y.l0 k1 l0 l1 a2 l3 ai (wrap64 (b + 1))) = some (r1,r2) := by first | (rw [D];with_reducible exact H) | (have A := (Option.bind_some _ _).symm.trans H;rw [D];with_reducible exact A) | (have A := (Option.bind_some _ _).symm.trans H;with_reducible exact A) | with_reducible exact H | (rw [D];exact H) | exact H
  have b9 := am_ D
  clear D
  have H' := am_ H
  clear H
  have a9 : 0 ≤ (b : Int) := ot_
  have aa : b < (l3.length : Int) := ot_
  obtain ⟨cj,bv,K,L,M⟩ := a3w bD.out b a9 aa
  cases bv
  replace K := qh_ HB K
  replace L := qh_ HB L
  replace M := qh_ HB M
  replace a9 := eq_true a9
  replace aa := eq_true aa
  have ad : 0 ≤ (b : Int) := ot_
  have ae : (b : Int) < ((i.length : Int) : Int) := ot_
  obtain ⟨q,aB,aC,aD,bw,cn,aE⟩ := Kd.a8n HO_10.out (by omega)
  (first | cases aC | (injection aC with ea_ en_ ec_;(first | subst ea_ | (injection ea_ with ea_;subst ea_));subst ec_;clear en_))
  have aj := am_ aD
  have co := am_ aE
  clear aD bw aE
  obtain ⟨cp,ba,aF,U,W⟩ := Kd.a6k HO_10.out z42 (b : Int) ad ae
  obtain rfl := a6f aF
  have aG : wr.cell? ⟨q,(b : Int).toNat * 3,none⟩ = some (.int .i64 ((a0b i b).f0)) := U 0 _ rfl
  have aH : wr.cell? ⟨q,(b : Int).toNat * 3 + 1,none⟩ = some (.int .i64 ((a0b i b).f1)) := U 1 _ rfl
  have aI : wr.cell? ⟨q,(b : Int).toNat * 3 + 2,none⟩ = some (.int .i64 ((a0b i b).f2)) := U 2 _ rfl
  have bF : wr.frozen? ⟨q,(b : Int).toNat * 3,none⟩ = false := W 0
  have bG : wr.frozen? ⟨q,(b : Int).toNat * 3 + 1,none⟩ = false := W 1
  have bH : wr.frozen? ⟨q,(b : Int).toNat * 3 + 2,none⟩ = false := W 2
  clear ba U W aF
  replace ad := eq_true ad
  replace ae := eq_true ae
  have aJ := am_ (show Kd.R k42 42 wr w.heap.size (fun _ => True) (.slice (some ⟨q,0,none⟩) i.length aB) i from (qr_ HO_10))
  obtain ⟨cq,ap,aK,E,X⟩ := Kd.a6k aJ.out z42 (b : Int) (ot_) (by have h_ : (b : Int) < ((i.length : Int) : Int) := ot_;first | exact h_ | (have e_ := (Kd.a1b HO_10.out).1;omega) | simpa using h_)
  obtain rfl := a6f aK
  have ak := Kd.b0l aJ.out (b : Int) (ot_) (by have h_ : (b : Int) < ((i.length : Int) : Int) := ot_;first | exact h_ | (have e_ := (Kd.a1b HO_10.out).1;omega) | simpa using h_) (seg := [.int .i64 ((a0b l3 b).f0), .int .i64 ((a0b l3 b).f1), .int .i64 ((a0b l3 b).f2)]) (j := 0) ap E (show 3 ≤ 3 from by decide) (x' := (⟨(a0b l3 b).f0,(a0b l3 b).f1,(a0b l3 b).f2⟩ : S42)) (a4p _ _ _ (⟨(a0b l3 b).f0,(a0b l3 b).f1,(a0b l3 b).f2⟩ : S42) ) (fun _ hk => hk)
  have af := E 0 _ rfl
  (try simp only [show (k42).sz = 3 from rfl,Nat.mul_one,Nat.add_zero] at af)
  have aL := X 0
  (try simp only [show (k42).sz = 3 from rfl,Nat.mul_one,Nat.add_zero] at aL)
  have ag := E 1 _ rfl
  (try simp only [show (k42).sz = 3 from rfl,Nat.mul_one,Nat.add_zero] at ag)
  have aM := X 1
  (try simp only [show (k42).sz = 3 from rfl,Nat.mul_one,Nat.add_zero] at aM)
  have ah := E 2 _ rfl
  (try simp only [show (k42).sz = 3 from rfl,Nat.mul_one,Nat.add_zero] at ah)
  have aN := X 2
  (try simp only [show (k42).sz = 3 from rfl,Nat.mul_one,Nat.add_zero] at aN)
  clear ap E X aK
  go_wp2_with (first | ((with_reducible refine a5g (t := 42) (p := 30) rfl ?_);refine a4w (t := 42) (p := 30) (v := ?vo_w15) (w1 := (((wr.setCell ⟨q,(b : Int).toNat * 3,none⟩ (.int .i64 ((a0b l3 b).f0))).setCell ⟨q,(b : Int).toNat * 3 + 1,none⟩ (.int .i64 ((a0b l3 b).f1))).setCell ⟨q,(b : Int).toNat * 3 + 2,none⟩ (.int .i64 ((a0b l3 b).f2)))) ?hg ?ho ?hn ?hr ?_;(case ho => rfl);(case hg => rfl);(case hn => rfl);(case hr => exact qq_);intro aO hw;have hg : wr.grownBy aO (some q) := (by rw [hw];exact ak.2);have hp_ : Kd.R k42 42 aO w.heap.size (fun _ => True) (.slice (some ⟨q,0,none⟩) i.length aB) ai := (by rw [hw,b9.out];exact ak.1);clear ak;replace HO_10 := am_ (hp_);replace HB := am_ ((by rw [hw];exact ls_ (ls_ (ls_ (HB.out) aj.out) aj.out) aj.out : Below w.heap.size w aO));clear hg hw hp_))
  go_roundg k1
  case measure => have := a6.out;omega
  case rel => exact ⟨(ai),(wrap64 (b + 1)),qs_,H',⟨by have := a6.out;omega⟩,⟨by (with_reducible repeat (first | apply Kd.a2a | apply Kd.a2b | apply Kd.a2f));exact HO_10.out⟩,⟨qb_⟩⟩
 rw [if_neg c9] at H
 have aA : decide (b < (l0.length : Int)) = false := decide_eq_false c9
 clear c9
 have H' := am_ H
 clear H
 go_wp2
 go_loopg [12] k1 (fun kq bI w' => ∃ (c : List (S42)) (a : Int),bI = .int .i64 a ∧ Aside0 (a0y.l1 kq l0 l1 a2 c a = some (r1,r2)) ∧ Aside0 (kq ≤ k1) ∧ Aside0 (Kd.R k42 42 w' w.heap.size (fun _ => True) az c) ∧ Aside0 (Below w.heap.size w w'))
 case atStart => exact ⟨(i),(0),qs_,H',⟨Nat.le_refl _⟩,⟨by (with_reducible repeat (first | apply Kd.a2a | apply Kd.a2b | apply Kd.a2f));exact HO_10.out⟩,⟨qb_⟩⟩
 case round =>
 clear H'
 try clear c1
 try clear c3
 try clear au
 try clear av
 try clear aw
 try clear ax
 try clear aA
 try clear b6
 try clear b7
 try clear b8
 try clear ad
 try clear ae
 try clear aG
 try clear aH
 try clear aI
 try clear af
 try clear ag
 try clear ah
 try clear K
 try clear L
 try clear M
 try clear ad
 try clear a9
 try clear ae
 try clear aa
 obtain ⟨c,a,rfl,HA,aq,HO_10,HB⟩ := hrel
 cases gk with
 | zero => exact absurd HA.out (by simp [a0y.l1])
 | succ k2 =>
 have H := HA.out
 clear HA
 simp only [a0y.l1] at H
 by_cases a7 : a < (l0.length : Int)
 rotate_left
 ·rw [if_neg a7] at H
  have bb : decide (a < (l0.length : Int)) = false := decide_eq_false a7
  clear a7
  simp only [Option.some.injEq,Prod.mk.injEq] at H
  obtain ⟨rfl,rfl⟩ := H
  go_wp2
  go_ret2
  exact ⟨_,qx_,by (with_reducible repeat (first | apply Kd.a2a | apply Kd.a2b | apply Kd.a2f));exact HO_10.out,qb_⟩
 rw [if_pos a7] at H
 have bb : decide (a < (l0.length : Int)) = true := decide_eq_true a7
 clear a7
 obtain ⟨ck,H⟩ := qid_ H
 obtain ⟨cl,H⟩ := qid_ H
 by_cases a8 : ((a0b c a).f2) > 0
 ·rw [if_pos a8] at H
  have bc : decide (0 < ((a0b c a).f2)) = true := decide_eq_true a8
  clear a8
  have H' := am_ H
  clear H
  obtain ⟨cr,ct,bx⟩ := Kd.a2v HO_10.out
  subst bx
  have u : 0 ≤ (a : Int) := ot_
  have x : a < (c.length : Int) := ot_
  obtain ⟨G,a4,O,P,T⟩ := a3w (Kd.a1b HO_10.out).2.2 a u x
  cases a4
  replace u := eq_true u
  replace x := eq_true x
  go_wp2
  go_roundg k2
  case measure => have := a6.out;have := aq.out;omega
  case rel => exact ⟨(c),(wrap64 (a + 1)),qs_,H',⟨by have := a6.out;have := aq.out;omega⟩,⟨by (with_reducible repeat (first | apply Kd.a2a | apply Kd.a2b | apply Kd.a2f));exact HO_10.out⟩,⟨qb_⟩⟩
 rw [if_neg a8] at H
 have bc : decide (0 < ((a0b c a).f2)) = false := decide_eq_false a8
 clear a8
 replace H := bm_ H
 obtain ⟨⟨l,n,r,y⟩,aP,H⟩ := H
 replace H : (if y = 0 then (a0y.l1 k2 l0 l1 a2 (c.set (a : Int).toNat (⟨l,n,r⟩ : S42)) (wrap64 (a + 1))) else (some (([] : List (S42)),y))) = some (r1,r2) := H
 have bu := am_ aP
 clear aP
 by_cases a5 : y = 0
 rotate_left
 ·rw [if_neg a5] at H
  have bd : (y == 0) = false := beq_eq_false_iff_ne.mpr a5
  have be : (y != 0) = true := bne_iff_ne.mpr a5
  simp only [Option.some.injEq,Prod.mk.injEq] at H
  obtain ⟨rfl,rfl⟩ := H
  obtain ⟨cu,bz,bA⟩ := Kd.a2v HO_10.out
  subst bA
  have u : 0 ≤ (a : Int) := ot_
  have x : a < (c.length : Int) := ot_
  obtain ⟨G,a4,O,P,T⟩ := a3w (Kd.a1b HO_10.out).2.2 a u x
  cases a4
  replace u := eq_true u
  replace x := eq_true x
  go_wp2_with (first | ((with_reducible refine a0k (f := 56) rfl ?_);refine a1n (some 49) rfl rfl Try.func56 (by kernel_rfl) rfl #[.slice A0 l0.length c0, .slice A1 l1.length c1, .int .i64 a, .int .i64 a2, .slice (some G) c.length bz] rfl ql_ ?_;(with_reducible refine (a1g.calls k2 _ _ l0 _ _ l1 a a2 _ _ c l n r y _ ?s1 br.out ?s3 bt.out ?s5 ?s6 bu.out).mono ?_);(case s1 => exact qc_ bq);(case s3 => exact qc_ bs);(case s5 => exact qv_ (Kd.a1b HO_10.out).2.2);(case s6 => exact (Kd.a1b HO_10.out).2.1);rintro e cC ⟨rfl,hb⟩;refine ⟨_,rfl,?_⟩;replace HO_10 := qrb_ HO_10 hb;replace HB := qbs_ hb;(try clear hb);(try clear bJ);(try clear hk);(try clear hi)) | ((with_reducible refine a0s (N := 13) rfl ?_);refine qev_ 13 #[.int .i64 0, .int .i64 0, .int .i64 0] 42 ?_;intro d hg cD hbox hb;replace HO_10 := am_ (Kd.a4t (Kd.a5j (qr_ HO_10) d (Nat.le_of_eq hg.symm)) hb);have m := am_ (hbox);have bf := qga_ hg;have bg := qga_ hg;replace HB := qbs_ hb;clear hb hbox hg;obtain ⟨bK,bL,bM⟩ := qz3_ m;obtain ⟨bN,bO,bP⟩ := qf3_ m))
  go_ret2
  exact ⟨_,qx_,by first | exact Kd.a5p _ _ _ _ _ | exact Kd.N_nil _ _ _ _ _ | exact Kd.a5r _ _ _ _ _ | exact Kd.Q_nil _ _ _ _ _ | exact Kd.S_nil _ _ _ _ _,qb_⟩
 rw [if_pos a5] at H
 have bd : (y == 0) = true := beq_iff_eq.mpr a5
 have be : (y != 0) = false := bne_eq_false_iff_eq.mpr a5
 clear a5
 obtain ⟨al,I⟩ : ∃ y_ : List (S42),y_ = (c.set (a : Int).toNat (⟨l,n,r⟩ : S42)) := ⟨_,rfl⟩
 replace H : (a0y.l1 k2 l0 l1 a2 al (wrap64 (a + 1))) = some (r1,r2) := by first | (rw [I];with_reducible exact H) | (have A := (Option.bind_some _ _).symm.trans H;rw [I];with_reducible exact A) | (have A := (Option.bind_some _ _).symm.trans H;with_reducible exact A) | with_reducible exact H | (rw [I];exact H) | exact H
 have bh := am_ I
 clear I
 have H' := am_ H
 clear H
 obtain ⟨cv,ab,bB⟩ := Kd.a2v HO_10.out
 subst bB
 have u : 0 ≤ (a : Int) := ot_
 have x : a < (c.length : Int) := ot_
 obtain ⟨G,a4,O,P,T⟩ := a3w (Kd.a1b HO_10.out).2.2 a u x
 cases a4
 replace u := eq_true u
 replace x := eq_true x
 go_wp2_with (first | ((with_reducible refine a0k (f := 56) rfl ?_);refine a1n (some 49) rfl rfl Try.func56 (by kernel_rfl) rfl #[.slice A0 l0.length c0, .slice A1 l1.length c1, .int .i64 a, .int .i64 a2, .slice (some G) c.length ab] rfl ql_ ?_;(with_reducible refine (a1g.calls k2 _ _ l0 _ _ l1 a a2 _ _ c l n r y _ ?s1 br.out ?s3 bt.out ?s5 ?s6 bu.out).mono ?_);(case s1 => exact qc_ bq);(case s3 => exact qc_ bs);(case s5 => exact qv_ (Kd.a1b HO_10.out).2.2);(case s6 => exact (Kd.a1b HO_10.out).2.1);rintro e cE ⟨rfl,hb⟩;refine ⟨_,rfl,?_⟩;replace HO_10 := qrb_ HO_10 hb;replace HB := qbs_ hb;(try clear hb);(try clear bJ);(try clear hk);(try clear hi)) | ((with_reducible refine a0s (N := 13) rfl ?_);refine qev_ 13 #[.int .i64 0, .int .i64 0, .int .i64 0] 42 ?_;intro d hg bQ hbox hb;replace HO_10 := am_ (Kd.a4t (Kd.a5j (qr_ HO_10) d (Nat.le_of_eq hg.symm)) hb);have m := am_ (hbox);have bf := qga_ hg;have bg := qga_ hg;replace HB := qbs_ hb;clear hb hbox hg;obtain ⟨bR,bS,bT⟩ := qz3_ m;obtain ⟨bU,bV,bW⟩ := qf3_ m) | ((with_reducible refine a5g (t := 42) (p := 13) rfl ?_);refine a4w (t := 42) (p := 13) (v := ?vo_w28) (w1 := (((bQ.setCell ⟨d,0,none⟩ (.int .i64 l)).setCell ⟨d,1,none⟩ (.int .i64 n)).setCell ⟨d,2,none⟩ (.int .i64 r))) ?hg ?ho ?hn ?hr ?_;(case ho => rfl);(case hg => rfl);(case hn => rfl);(case hr => exact qq_);intro z hw;replace HO_10 : Aside0 (Kd.R k42 42 z w.heap.size (fun k_ => k_ ≠ d) (.slice (some G) c.length ab) c) := ⟨(by rw [hw];exact (by (with_reducible repeat (first | apply Kd.a2a | apply Kd.a2b | apply Kd.a2f));exact Kd.a2h (Kd.a4a (p := ⟨d,2,none⟩) (Kd.a4a (p := ⟨d,1,none⟩) (Kd.a4a (p := ⟨d,0,none⟩) (Kd.a2h HO_10.out (fun k_ hk => (⟨hk,hk.2⟩ : _ ∧ k_ ≠ d))) (fun _ hk => hk.2) (.int .i64 l)) (fun _ hk => hk.2) (.int .i64 n)) (fun _ hk => hk.2) (.int .i64 r)) (fun _ hk => hk.1.2)))⟩;replace m : Aside0 (z.heap[d]? = some (.cells #[.int .i64 l, .int .i64 n, .int .i64 r] 42 (0,0))) := ⟨(by rw [hw];exact (by refine qd_ ?_;refine a0h (cs := #[.int .i64 l, .int .i64 n, .int .i64 0]) ?_ 2 _ rfl;refine qd_ ?_;refine a0h (cs := #[.int .i64 l, .int .i64 0, .int .i64 0]) ?_ 1 _ rfl;refine qd_ ?_;refine a0h (cs := #[.int .i64 0, .int .i64 0, .int .i64 0]) ?_ 0 _ rfl;refine qd_ ?_;exact m.out))⟩;replace HB : Aside0 (Below w.heap.size w z) := ⟨(by rw [hw];exact qb_)⟩;clear hw;obtain ⟨bX,bY,bZ⟩ := qz3_ m;obtain ⟨ca,cb,cc⟩ := qf3_ m;have aQ : 0 ≤ (a : Int) := ot_;have aR : (a : Int) < ((c.length : Int) : Int) := ot_;obtain ⟨s,cw,aS,aT,bC,cx,aU⟩ := Kd.a8n HO_10.out (by omega);(first | cases aS | (injection aS with ea_ en_ ec_;(first | subst ea_ | (injection ea_ with ea_;subst ea_));subst ec_;clear en_));have am := am_ aT;have cy := am_ aU;clear aT bC aU;(first | simp only [add_plain] at O | skip);(first | simp only [add_plain] at P | skip);(first | simp only [add_plain] at T | skip);obtain ⟨cz,bi,aV,a0,a1⟩ := Kd.a6k HO_10.out z42 (a : Int) aQ aR;obtain rfl := a6f aV;have cd : z.cell? ⟨s,(a : Int).toNat * 3,none⟩ = some (.int .i64 ((a0b c a).f0)) := a0 0 _ rfl;have ce : z.cell? ⟨s,(a : Int).toNat * 3 + 1,none⟩ = some (.int .i64 ((a0b c a).f1)) := a0 1 _ rfl;have cf : z.cell? ⟨s,(a : Int).toNat * 3 + 2,none⟩ = some (.int .i64 ((a0b c a).f2)) := a0 2 _ rfl;have cg : z.frozen? ⟨s,(a : Int).toNat * 3,none⟩ = false := a1 0;have ch : z.frozen? ⟨s,(a : Int).toNat * 3 + 1,none⟩ = false := a1 1;have ci : z.frozen? ⟨s,(a : Int).toNat * 3 + 2,none⟩ = false := a1 2;clear bi a0 a1 aV;replace aQ := eq_true aQ;replace aR := eq_true aR;have aW := am_ (show Kd.R k42 42 z w.heap.size (fun k_ => k_ ≠ d) (.slice (some ⟨s,0,none⟩) c.length ab) c from (qr_ HO_10));obtain ⟨cA,ar,aX,J,a3⟩ := Kd.a6k aW.out z42 (a : Int) (ot_) (by have h_ : (a : Int) < ((c.length : Int) : Int) := ot_;first | exact h_ | (have e_ := (Kd.a1b HO_10.out).1;omega) | simpa using h_);obtain rfl := a6f aX;have an := Kd.b0l aW.out (a : Int) (ot_) (by have h_ : (a : Int) < ((c.length : Int) : Int) := ot_;first | exact h_ | (have e_ := (Kd.a1b HO_10.out).1;omega) | simpa using h_) (seg := [.int .i64 l, .int .i64 n, .int .i64 r]) (j := 0) ar J (show 3 ≤ 3 from by decide) (x' := (⟨l,n,r⟩ : S42)) (a4p _ _ _ (⟨l,n,r⟩ : S42) ) (fun _ hk => hk);have aY := J 0 _ rfl;(try simp only [show (k42).sz = 3 from rfl,Nat.mul_one,Nat.add_zero] at aY);have aZ := a3 0;(try simp only [show (k42).sz = 3 from rfl,Nat.mul_one,Nat.add_zero] at aZ);have b0 := J 1 _ rfl;(try simp only [show (k42).sz = 3 from rfl,Nat.mul_one,Nat.add_zero] at b0);have b1 := a3 1;(try simp only [show (k42).sz = 3 from rfl,Nat.mul_one,Nat.add_zero] at b1);have b2 := J 2 _ rfl;(try simp only [show (k42).sz = 3 from rfl,Nat.mul_one,Nat.add_zero] at b2);have b3 := a3 2;(try simp only [show (k42).sz = 3 from rfl,Nat.mul_one,Nat.add_zero] at b3);clear ar J a3 aX) | ((with_reducible refine a5g (t := 42) (p := 58) rfl ?_);refine a4w (t := 42) (p := 58) (v := ?vo_w31) (w1 := (((z.setCell ⟨s,(a : Int).toNat * 3,none⟩ (.int .i64 l)).setCell ⟨s,(a : Int).toNat * 3 + 1,none⟩ (.int .i64 n)).setCell ⟨s,(a : Int).toNat * 3 + 2,none⟩ (.int .i64 r))) ?hg ?ho ?hn ?hr ?_;(case ho => rfl);(case hg => rfl);(case hn => rfl);(case hr => exact qq_);intro b4 hw;have hg : z.grownBy b4 (some s) := (by rw [hw];exact an.2);have hp_ : Kd.R k42 42 b4 w.heap.size (fun k_ => k_ ≠ d) (.slice (some ⟨s,0,none⟩) c.length ab) al := (by rw [hw,bh.out];exact an.1);clear an;replace m := am_ (a4i (g := d) (o := .cells #[.int .i64 l, .int .i64 n, .int .i64 r] 42 (0,0)) (qk_ m) hg (Kd.a7v HO_10.out (fun _ hk => hk)));replace HO_10 := am_ (hp_);replace HB := am_ ((by rw [hw];exact ls_ (ls_ (ls_ (HB.out) am.out) am.out) am.out : Below w.heap.size w b4));clear hg hw hp_))
 go_roundg k2
 case measure => have := a6.out;have := aq.out;omega
 case rel => exact ⟨(al),(wrap64 (a + 1)),qs_,H',⟨by have := a6.out;have := aq.out;omega⟩,⟨by (with_reducible repeat (first | apply Kd.a2a | apply Kd.a2b | apply Kd.a2f));exact Kd.a2h HO_10.out (fun _ hk => trivial)⟩,⟨qb_⟩⟩
def a1z.j0 : Nat → List (S51) → List (S58) → Int → Bool → Option ((List (S42)) × Int)
 | 0,_,_,_,_ => none
 | k + 1,x0,x1,x2,b => if b = true then (some (([] : List (S42)),1)) else (if 0 ≤ (x0.length : Int) then (if ((x0.length : Int) : Int).toNat ≤ 11728124029610 then ((a0y.f k x0 x1 x2 (List.replicate ((x0.length : Int) : Int).toNat z42)).bind fun a => (some (a.1,a.2))) else (none)) else (none))
def a1z.f (k : Nat) (l0 : List (S51)) (l1 : List (S58)) (a2 : Int) : Option ((List (S42)) × Int) := (a0c.f k l0 l1).bind fun a => (if a = true then (if a2 < 0 then (a1z.j0 k l0 l1 a2 true) else (a1z.j0 k l0 l1 a2 (decide (a2 > 36524)))) else (a1z.j0 k l0 l1 a2 true))
theorem a1z.a1u : ∀ k,(∀ y0 y1 y2 y3,LeO (a1z.j0 k y0 y1 y2 y3) (a1z.j0 (k + 1) y0 y1 y2 y3))
 | 0 => fun _ _ _ _ r h => by simp [a1z.j0] at h
 | k + 1 => by
  have a := a1z.a1u k
  intro y0 y1 y2 y3
  unfold a1z.j0
  with_reducible (repeat' first | apply a | apply a0c.mono | apply a0y.mono | apply LeO.refl | apply LeO.none | apply LeO.ite | refine LeO.bind ?_ (fun _ => ?_))
theorem a1z.mono : ∀ a0 a1 a2 k,LeO (a1z.f k a0 a1 a2) (a1z.f (k + 1) a0 a1 a2) := by
 intro a0 a1 a2 k
 have a := a1z.a1u k
 unfold a1z.f
 with_reducible (repeat' first | apply a | apply a0c.mono | apply a0y.mono | apply LeO.refl | apply LeO.none | apply LeO.ite | refine LeO.bind ?_ (fun _ => ?_))
set_option maxHeartbeats 8000000 in
set_option maxRecDepth 100000 in
theorem a1z.calls (k : Nat) (A0 : Option Addr) (c0 : Nat) (l0 : List (S51)) (A1 : Option Addr) (c1 : Nat) (l1 : List (S58)) (a2 : Int) (r1 : List (S42)) (r2 : Int) (w : World) (v : Kd.C k51 w A0 l0.length l0) (x : l0.length ≤ c0) (y : Kd.C k58 w A1 l1.length l1) (z : l1.length ≤ c1) (h : a1z.f k l0 l1 a2 = some (r1,r2)) :
  Calls Try.prog 13 #[.slice A0 l0.length c0, .slice A1 l1.length c1, .int .i64 a2] w fun e w' => ∃ A : Value,e = .returned (.tuple #[A, .int .i64 r2]) ∧ Kd.R k42 42 w' w.heap.size (fun _ => True) A r1 ∧ Below w.heap.size w w' := by
 have B := am_ v
 have D := am_ x
 clear v x
 have E := am_ y
 have G := am_ z
 clear y z
 have HB := am_ (Below.refl w.heap.size w)
 have H : ((a0c.f k l0 l1).bind fun i => (if i = true then (if a2 < 0 then (a1z.j0 k l0 l1 a2 true) else (a1z.j0 k l0 l1 a2 (decide (a2 > 36524)))) else (a1z.j0 k l0 l1 a2 true))) = some (r1,r2) := h
 clear h
 replace H := bm_ H
 obtain ⟨i,I,H⟩ := H
 have A4 := am_ I
 clear I
 have o := am_ H
 clear H
 go_enter Try.func13,Try.ntmps13
 go_upto_region 2 with (first | ((with_reducible refine a0k (f := 15) rfl ?_);refine a1n (some 13) rfl rfl Try.func15 (by kernel_rfl) rfl #[.slice A0 l0.length c0, .slice A1 l1.length c1] rfl ql_ ?_;(with_reducible refine (a0c.calls k _ _ l0 _ _ l1 i _ ?s1 D.out ?s3 G.out A4.out).mono ?_);(case s1 => repeat (first | exact B.out | (with_reducible refine Kd.a2n ?_ _) | (with_reducible refine Kd.a2o ?_ _) | (with_reducible refine Kd.a2u ?_)));(case s3 => repeat (first | exact E.out | (with_reducible refine Kd.a2n ?_ _) | (with_reducible refine Kd.a2o ?_ _) | (with_reducible refine Kd.a2u ?_)));rintro e w6 ⟨rfl,hb⟩;refine ⟨_,rfl,?_⟩;replace HB := qbs_ hb;(try clear hb);(try clear O);(try clear hk);(try clear hi)))
 (try simp only [Act.put,List.setIfInBounds_toArray,List.set_cons_zero,List.set_cons_succ])
 go_cut [23] (fun P wc => ∃ (kq : Nat) (d : Bool),P = .bool d ∧ Aside0 (a1z.j0 kq l0 l1 a2 d = some (r1,r2)) ∧ Aside0 (kq ≤ k) ∧ Aside0 (Below w.heap.size w wc))
 case first =>
  have H := o.out
  clear o
  by_cases c7 : i = true
  rotate_left
  ·replace c7 := be_ c7
   subst c7
   replace H := qin_ H
   have H' := am_ H
   clear H
   go_wp2
   go_meet
   case rel => exact ⟨_,(true),qs_,H',⟨qo_⟩,⟨qb_⟩⟩
  subst c7
  replace H := qip_ H
  by_cases c8 : a2 < 0
  ·rw [if_pos c8] at H
   have c : decide (a2 < 0) = true := decide_eq_true c8
   clear c8
   (first | rw [c] | (simp only [a3x,a4g];rw [c]) | skip)
   have H' := am_ H
   clear H
   go_wp2
   go_meet
   case rel => exact ⟨_,(true),qs_,H',⟨qo_⟩,⟨qb_⟩⟩
  rw [if_neg c8] at H
  have c : decide (a2 < 0) = false := decide_eq_false c8
  clear c8
  (first | rw [c] | (simp only [a3x,a4g];rw [c]) | skip)
  have H' := am_ H
  clear H
  go_wp2
  go_meet
  case rel => exact ⟨_,(decide (a2 > 36524)),qs_,H',⟨qo_⟩,⟨qb_⟩⟩
 case rest =>
 clear o
 try clear c1
 try clear c7
 try clear c
 obtain ⟨kq,d,rfl,HA,a4,HB⟩ := hcut
 cases kq with
 | zero => exact absurd HA.out (by simp [a1z.j0])
 | succ J =>
 have H := HA.out
 clear HA
 simp only [a1z.j0] at H
 by_cases c9 : d = true
 ·subst c9
  replace H := qip_ H
  simp only [Option.some.injEq,Prod.mk.injEq] at H
  obtain ⟨rfl,rfl⟩ := H
  go_wp2
  go_ret2
  exact ⟨_,qx_,by first | exact Kd.a5p _ _ _ _ _ | exact Kd.N_nil _ _ _ _ _ | exact Kd.a5r _ _ _ _ _ | exact Kd.Q_nil _ _ _ _ _ | exact Kd.S_nil _ _ _ _ _,qb_⟩
 replace c9 := be_ c9
 subst c9
 replace H := qin_ H
 by_cases c10 : 0 ≤ (l0.length : Int)
 rotate_left
 ·rw [if_neg c10] at H
  exact absurd H (by simp)
 rw [if_pos c10] at H
 have U := eq_true c10
 have W : decide (0 ≤ (l0.length : Int)) = true := decide_eq_true c10
 clear c10
 by_cases j : ((l0.length : Int) : Int).toNat ≤ 11728124029610
 rotate_left
 ·rw [if_neg j] at H
  exact absurd H (by simp)
 rw [if_pos j] at H
 have X := eq_true j
 have a0 : decide (((l0.length : Int) : Int).toNat ≤ 11728124029610) = true := decide_eq_true j
 clear j
 obtain ⟨l,b⟩ : ∃ y_ : List (S42),y_ = (List.replicate ((l0.length : Int) : Int).toNat z42) := ⟨_,rfl⟩
 replace H : ((a0y.f J l0 l1 a2 l).bind fun m => (some (m.1,m.2))) = some (r1,r2) := by first | (rw [b];with_reducible exact H) | (have p := (Option.bind_some _ _).symm.trans H;rw [b];with_reducible exact p) | (have p := (Option.bind_some _ _).symm.trans H;with_reducible exact p) | with_reducible exact H | (rw [b];exact H) | exact H
 have n := am_ b
 clear b
 replace H := bm_ H
 obtain ⟨⟨q,r⟩,s,H⟩ := H
 replace H : (some (q,r)) = some (r1,r2) := H
 have T := am_ s
 clear s
 simp only [Option.some.injEq,Prod.mk.injEq] at H
 obtain ⟨rfl,rfl⟩ := H
 go_wp2_with (first | ((with_reducible refine a0s (N := 30) rfl ?_);refine Kd.b1e k42 _ 42 rfl (N := 30) rfl 24 _ _ rfl (l0.length : Int) rfl rfl Try.underlying24 (.agg #[(.int .i64 0),(.int .i64 0),(.int .i64 0)]) 24 a7x rfl (by decide) (by omega) z42 (ok := fun _ => True) (okp := fun _ => True) (a4p _ _ _ z42 ) (fun _ hk => hk) trivial (ot_) (Nat.le_trans (Nat.mul_le_mul_right _ (ot_ : (l0.length : Int).toNat ≤ 11728124029610)) (by omega)) (Below.refl _ _) (Nat.le_refl _) ?_;intro a1 a5 g hb hg_ hnew_;clear hg_ hnew_;(first | rw [← n.out] at g | (simp only [Int.reduceToNat] at g;rw [← n.out] at g));have a := am_ (Kd.a3d g (a0w qb_));replace HB := qbs_ hb;clear hb g;obtain ⟨K,L,M⟩ := Kd.a2v a.out;subst M) | ((with_reducible refine a0k (f := 32) rfl ?_);refine a1n (some 31) rfl rfl Try.func32 (by kernel_rfl) rfl #[.slice A0 l0.length c0, .slice A1 l1.length c1, .int .i64 a2, .slice K l.length L] rfl ql_ ?_;(with_reducible refine (a0y.calls J _ _ l0 _ _ l1 a2 _ _ l q r _ ?s1 D.out ?s3 G.out ?s5 ?s6 T.out).mono ?_);(case s1 => exact qc_ B);(case s3 => exact qc_ E);(case s5 => exact qv_ (Kd.a1b a.out).2.2);(case s6 => exact (Kd.a1b a.out).2.1);rintro e a6 ⟨a3,rfl,t,hb⟩;refine ⟨_,rfl,?_⟩;have u := am_ (Kd.a3d (Kd.a3z t (Kd.R_lt (qr_ a))) (a0w qb_));replace a := qel_ a t hb;replace HB := qbs_ hb;(try clear hb);(try clear O);(try clear hk);(try clear hi);(try clear t)))
 go_ret2
 exact ⟨_,qx_,by (with_reducible repeat (first | apply Kd.a2a | apply Kd.a2b | apply Kd.a2f));exact Kd.a2h u.out (fun _ hk => trivial),qb_⟩
def a1y.l0 : Nat → List (S51) → List (S42) → Int → Option (Bool)
 | 0,_,_,_ => none
 | k + 1,x0,x1,x5 => if x5 < (x1.length : Int) then (if 0 ≤ x5 then (if x5 < (x0.length : Int) then (if ((a0b x1 x5).f0) = ((a0a x0 x5).f0) then (a1y.l0 k x0 x1 (wrap64 (x5 + 1))) else (some false)) else (none)) else (none)) else (some true)
def a1y.f (k : Nat) (l0 : List (S51)) (l1 : List (S42)) : Option (Bool) := if (l1.length : Int) = (l0.length : Int) then (a1y.l0 k l0 l1 0) else (some false)
theorem a1y.a1u : ∀ k,(∀ y0 y1 y2,LeO (a1y.l0 k y0 y1 y2) (a1y.l0 (k + 1) y0 y1 y2))
 | 0 => fun _ _ _ r h => by simp [a1y.l0] at h
 | k + 1 => by
  have a := a1y.a1u k
  intro y0 y1 y2
  unfold a1y.l0
  with_reducible (repeat' first | apply a | apply LeO.refl | apply LeO.none | apply LeO.ite | refine LeO.bind ?_ (fun _ => ?_))
theorem a1y.mono : ∀ a0 a1 k,LeO (a1y.f k a0 a1) (a1y.f (k + 1) a0 a1) := by
 intro a0 a1 k
 have a := a1y.a1u k
 unfold a1y.f
 with_reducible (repeat' first | apply a | apply LeO.refl | apply LeO.none | apply LeO.ite | refine LeO.bind ?_ (fun _ => ?_))
set_option maxHeartbeats 8000000 in
set_option maxRecDepth 100000 in
theorem a1y.calls (k : Nat) (A0 : Option Addr) (c0 : Nat) (l0 : List (S51)) (A1 : Option Addr) (c1 : Nat) (l1 : List (S42)) (r : Bool) (w : World) (T : Kd.C k51 w A0 l0.length l0) (U : l0.length ≤ c0) (W : Kd.C k42 w A1 l1.length l1) (X : l1.length ≤ c1) (h : a1y.f k l0 l1 = some r) :
  Calls Try.prog 43 #[.slice A0 l0.length c0, .slice A1 l1.length c1] w fun e w' => e = .returned (.bool r) ∧ a3j w w' := by
 have a0 := am_ T
 have a8 := am_ U
 clear T U
 have a1 := am_ W
 have a9 := am_ X
 clear W X
 have H : (if (l1.length : Int) = (l0.length : Int) then (a1y.l0 k l0 l1 0) else (some false)) = some r := h
 clear h
 by_cases c3 : (l1.length : Int) = (l0.length : Int)
 rotate_left
 ·rw [if_neg c3] at H
  have E : ((l1.length : Int) == (l0.length : Int)) = false := beq_eq_false_iff_ne.mpr c3
  have G : ((l1.length : Int) != (l0.length : Int)) = true := bne_iff_ne.mpr c3
  have I : (l1.length == l0.length) = false := by first | simpa using c3 | (simp at c3 ⊢;omega)
  obtain rfl := si_ H
  go_enter Try.func43,Try.ntmps43
  go_wp2
  repeat (go_quiet (fail);try go_wp2)
  go_ret
  exact ⟨qs_,qy_⟩
 rw [if_pos c3] at H
 have E : ((l1.length : Int) == (l0.length : Int)) = true := beq_iff_eq.mpr c3
 have G : ((l1.length : Int) != (l0.length : Int)) = false := bne_eq_false_iff_eq.mpr c3
 have I : (l1.length == l0.length) = true := by first | simpa using c3 | (simp at c3 ⊢;omega)
 clear c3
 have H' := am_ H
 clear H
 go_enter Try.func43,Try.ntmps43
 go_wp2
 repeat (go_quiet (fail);try go_wp2)
 go_loopg [5] k (fun kq v5 w' => ∃ (a : Int),v5 = .int .i64 a ∧ Aside0 (a1y.l0 kq l0 l1 a = some r) ∧ Aside0 (kq ≤ k) ∧ a3j w w')
 case atStart => exact ⟨(0),qs_,H',⟨Nat.le_refl _⟩,qy_⟩
 case round =>
 clear H'
 try clear c1
 try clear E
 try clear G
 try clear I
 obtain ⟨a,rfl,HA,a2,⟨m1,rfl⟩⟩ := hrel
 cases gk with
 | zero => exact absurd HA.out (by simp [a1y.l0])
 | succ k1 =>
 have H := HA.out
 clear HA
 simp only [a1y.l0] at H
 by_cases c4 : a < (l1.length : Int)
 rotate_left
 ·rw [if_neg c4] at H
  have a3 : decide (a < (l1.length : Int)) = false := decide_eq_false c4
  clear c4
  obtain rfl := si_ H
  go_wp2
  repeat (go_quiet (fail);try go_wp2)
  go_ret
  exact ⟨qs_,qy_⟩
 rw [if_pos c4] at H
 have a3 : decide (a < (l1.length : Int)) = true := decide_eq_true c4
 clear c4
 obtain ⟨a6,H⟩ := qid_ H
 obtain ⟨a7,H⟩ := qid_ H
 by_cases c7 : ((a0b l1 a).f0) = ((a0a l0 a).f0)
 rotate_left
 ·rw [if_neg c7] at H
  have a4 : (((a0b l1 a).f0) == ((a0a l0 a).f0)) = false := beq_eq_false_iff_ne.mpr c7
  have a5 : (((a0b l1 a).f0) != ((a0a l0 a).f0)) = true := bne_iff_ne.mpr c7
  obtain rfl := si_ H
  have i : 0 ≤ (a : Int) := ot_
  have j : a < (l1.length : Int) := ot_
  obtain ⟨O,n,p,q,s⟩ := a3w a1.out a i j
  cases n
  replace i := eq_true i
  replace j := eq_true j
  have l : 0 ≤ (a : Int) := ot_
  have m : a < (l0.length : Int) := ot_
  obtain ⟨P,J,K,L,M,o,t,u,v,x,y,b,c,d,g⟩ := a4f a0.out a l m
  cases o
  have z := am_ c
  have A := am_ b
  clear c b
  have B := am_ g
  have D := am_ d
  clear g d
  replace l := eq_true l
  replace m := eq_true m
  go_wp2
  repeat (go_quiet (fail);try go_wp2)
  go_ret
  exact ⟨qs_,qy_⟩
 rw [if_pos c7] at H
 have a4 : (((a0b l1 a).f0) == ((a0a l0 a).f0)) = true := beq_iff_eq.mpr c7
 have a5 : (((a0b l1 a).f0) != ((a0a l0 a).f0)) = false := bne_eq_false_iff_eq.mpr c7
 clear c7
 have H' := am_ H
 clear H
 have i : 0 ≤ (a : Int) := ot_
 have j : a < (l1.length : Int) := ot_
 obtain ⟨O,n,p,q,s⟩ := a3w a1.out a i j
 cases n
 replace i := eq_true i
 replace j := eq_true j
 have l : 0 ≤ (a : Int) := ot_
 have m : a < (l0.length : Int) := ot_
 obtain ⟨P,J,K,L,M,o,t,u,v,x,y,b,c,d,g⟩ := a4f a0.out a l m
 cases o
 have z := am_ c
 have A := am_ b
 clear c b
 have B := am_ g
 have D := am_ d
 clear g d
 replace l := eq_true l
 replace m := eq_true m
 go_wp2
 repeat (go_quiet (fail);try go_wp2)
 go_roundg k1
 case measure => have := a2.out;omega
 case rel => exact ⟨(wrap64 (a + 1)),qs_,H',⟨by have := a2.out;omega⟩,qy_⟩
end Go.Proofs.Ytheibjkjmkanoaa.Px
