/- Contracts of Go functions, printed. Conditions: as each theorem states. -/
import Derived.Test.YtheibjkjmkanoaaPx0
import Derived.Test.YtheibjkjmkanoaaPx22
import Derived.Test.YtheibjkjmkanoaaPx23
import Derived.Test.YtheibjkjmkanoaaPx25
import Derived.Test.YtheibjkjmkanoaaPx26
namespace Go.Proofs.Ytheibjkjmkanoaa.Px
open Go.Proofs.Ytheibjkjmkanoaa.Given
open Go.RowKit Go.Proofs.YtheibjkjmkanoaaW.PrintWords Go.Proofs.YtheibjkjmkanoaaW.PrintLast Go.Proofs.YtheibjkjmkanoaaW.PrintMore
attribute [local go_sem] a3r a3s a4b a4c a3f a3g a3t a3u
set_option linter.unusedVariables false
set_option linter.unusedSimpArgs false
mutual
def a1g.l0 : Nat → List (S51) → List (S58) → Int → List (S42) → Int → Int → Int → Int → Int → List Int → List Int → Option (Int × Int × Int × Int)
 | 0,_,_,_,_,_,_,_,_,_,_,_ => none
 | k + 1,x0,x1,x2,x4,d,b,u0,u1,u2,u3,u4 => if b < (u3.length : Int) then (if 0 ≤ b then ((a1f.f k x0 x2 (rd u3 b)).bind fun a => (if 0 ≤ a then (if a < (x4.length : Int) then (a1g.l0 k x0 x1 x2 x4 (mx d ((a0b x4 a).f2)) (wrap64 (b + 1)) u0 u1 u2 u3 u4) else (none)) else (none))) else (none)) else ((a1o.f k x1 u1).bind fun c => (a1g.l1 k x0 x2 x4 c.1 d u0 u1 u2 u3 u4))
def a1g.l1 : Nat → List (S51) → Int → List (S42) → List (S56) → Int → Int → Int → Int → List Int → List Int → Option (Int × Int × Int × Int)
 | 0,_,_,_,_,_,_,_,_,_,_ => none
 | k + 1,x0,x2,x4,b,a,u0,u1,u2,u3,u4 => if (wrap64 (a + u2)) ≤ 36525 then ((a1r.f k b a (wrap64 (a + u2))).bind fun c => (if c = true then ((a0m.f k x0 x2 a (wrap64 (a + u2)) x4).bind fun d => (if d = true then (a1g.l1 k x0 x2 x4 b (wrap64 (a + 1)) u0 u1 u2 u3 u4) else (some (u0,a,wrap64 (a + u2),0)))) else (a1g.l1 k x0 x2 x4 b (wrap64 (a + 1)) u0 u1 u2 u3 u4))) else (some (0,0,0,20))
end
def a1g.f (k : Nat) (l0 : List (S51)) (l1 : List (S58)) (a2 a3 : Int) (l4 : List (S42)) : Option (Int × Int × Int × Int) := if 0 ≤ a2 then (if a2 < (l0.length : Int) then (a1g.l0 k l0 l1 a2 l4 a3 0 ((a0a l0 a2).f0) ((a0a l0 a2).f1) ((a0a l0 a2).f2) ((a0a l0 a2).f3) ((a0a l0 a2).f4)) else (none)) else (none)
theorem a1g.a1u : ∀ k,(∀ y0 y1 y2 y3 y4 y5 y6 y7 y8 y9 a,LeO (a1g.l0 k y0 y1 y2 y3 y4 y5 y6 y7 y8 y9 a) (a1g.l0 (k + 1) y0 y1 y2 y3 y4 y5 y6 y7 y8 y9 a)) ∧ (∀ y0 y1 y2 y3 y4 y5 y6 y7 y8 y9,LeO (a1g.l1 k y0 y1 y2 y3 y4 y5 y6 y7 y8 y9) (a1g.l1 (k + 1) y0 y1 y2 y3 y4 y5 y6 y7 y8 y9))
 | 0 => ⟨fun _ _ _ _ _ _ _ _ _ _ _ r h => by simp [a1g.l0] at h,fun _ _ _ _ _ _ _ _ _ _ r h => by simp [a1g.l1] at h⟩
 | k + 1 => by
  obtain ⟨b,c⟩ := a1g.a1u k
  refine ⟨?_,?_⟩ <;> intros <;> (first | unfold a1g.l0 | unfold a1g.l1) <;> with_reducible (repeat' first | apply b | apply c | apply a1f.mono | apply a0m.mono | apply a1o.mono | apply a1r.mono | apply LeO.refl | apply LeO.none | apply LeO.ite | refine LeO.bind ?_ (fun _ => ?_))
theorem a1g.mono : ∀ a0 a1 a2 a3 a4 k,LeO (a1g.f k a0 a1 a2 a3 a4) (a1g.f (k + 1) a0 a1 a2 a3 a4) := by
 intro a0 a1 a2 a3 a4 k
 obtain ⟨a,b⟩ := a1g.a1u k
 unfold a1g.f
 with_reducible (repeat' first | apply a | apply b | apply a1f.mono | apply a0m.mono | apply a1o.mono | apply a1r.mono | apply LeO.refl | apply LeO.none | apply LeO.ite | refine LeO.bind ?_ (fun _ => ?_))
set_option maxHeartbeats 8000000 in
set_option maxRecDepth 100000 in
theorem a1g.calls (k : Nat) (A0 : Option Addr) (c0 : Nat) (l0 : List (S51)) (A1 : Option Addr) (c1 : Nat) (l1 : List (S58)) (a2 a3 : Int) (A4 : Option Addr) (c4 : Nat) (l4 : List (S42)) (r1 r2 r3 r4 : Int) (w : World) (b4 : Kd.C k51 w A0 l0.length l0) (b5 : l0.length ≤ c0) (b6 : Kd.C k58 w A1 l1.length l1) (b7 : l1.length ≤ c1) (b8 : Kd.C k42 w A4 l4.length l4) (b9 : l4.length ≤ c4) (h : a1g.f k l0 l1 a2 a3 l4 = some (r1,r2,r3,r4)) :
  Calls Try.prog 56 #[.slice A0 l0.length c0, .slice A1 l1.length c1, .int .i64 a2, .int .i64 a3, .slice A4 l4.length c4] w fun e w' => e = .returned (.tuple #[.agg #[.int .i64 r1, .int .i64 r2, .int .i64 r3], .int .i64 r4]) ∧ Below w.heap.size w w' := by
 have dh := Try.underlying42
 have di := Try.underlying51
 have ak := am_ b4
 have aq := am_ b5
 clear b4 b5
 have bw := am_ b6
 have bx := am_ b7
 clear b6 b7
 have ar := am_ b8
 have ba := am_ b9
 clear b8 b9
 have HB := am_ (Below.refl w.heap.size w)
 have H : (if 0 ≤ a2 then (if a2 < (l0.length : Int) then (a1g.l0 k l0 l1 a2 l4 a3 0 ((a0a l0 a2).f0) ((a0a l0 a2).f1) ((a0a l0 a2).f2) ((a0a l0 a2).f3) ((a0a l0 a2).f4)) else (none)) else (none)) = some (r1,r2,r3,r4) := h
 clear h
 obtain ⟨au,H⟩ := qid_ H
 obtain ⟨av,H⟩ := qid_ H
 have H' := am_ H
 clear H
 go_enter Try.func56,Try.ntmps56
 go_wp2_with (first | ((with_reducible refine a0s (N := 10) rfl ?_);refine qev_ 10 #[.int .i64 0, .int .i64 0, .int .i64 0] 42 ?_;intro q hg w8 hbox hb;have c := am_ (hbox);have aX := qga_ hg;have cZ := qga_ hg;replace HB := qbs_ hb;clear hb hbox hg;have M : 0 ≤ (a2 : Int) := ot_;have O : a2 < (l0.length : Int) := ot_;obtain ⟨a4,t,u,D,E,bf,v,x,y,z,A,P,T,U,W⟩ := a4f ak.out a2 M O;cases bf;replace v := qh_ HB v;replace x := qh_ HB x;replace y := qh_ HB y;replace z := qh_ HB z;replace A := qh_ HB A;have ap := am_ T;have bt := am_ P;clear T P;have bu := am_ W;have bv := am_ U;clear W U;replace M := eq_true M;replace O := eq_true O) | ((with_reducible refine a0s (N := 12) rfl ?_);refine qev_ 12 #[.int .i64 0, .int .i64 0, .int .i64 0, .slice none 0 0, .slice none 0 0] 51 ?_;intro s hg w9 hbox hb;have a := am_ (hbox);have aY := qga_ hg;have d0 := qga_ hg;replace HB := qbs_ hb;obtain ⟨d,l⟩ := qnb_ hg c;replace c := qkb_ c hb;clear hb hbox hg;have d1 := l.out;have d2 := d.out;obtain ⟨a9,aa,ab,ac,ad⟩ := qz5_ a;obtain ⟨ae,af,ag,ah,ai⟩ := qf5_ a))
 go_loopg [13,14] k (fun kq bz bA w' => ∃ (r : Int) (n : Int),bz = .int .i64 r ∧ bA = .int .i64 n ∧ Aside0 (a1g.l0 kq l0 l1 a2 l4 r n ((a0a l0 a2).f0) ((a0a l0 a2).f1) ((a0a l0 a2).f2) ((a0a l0 a2).f3) ((a0a l0 a2).f4) = some (r1,r2,r3,r4)) ∧ Aside0 (kq ≤ k) ∧ Aside0 (w'.heap[q]? = some (.cells #[.int .i64 0, .int .i64 0, .int .i64 0] 42 (0,0))) ∧ Aside0 (w'.heap[s]? = some (.cells #[.int .i64 ((a0a l0 a2).f0), .int .i64 ((a0a l0 a2).f1), .int .i64 ((a0a l0 a2).f2),(.slice t ((a0a l0 a2).f3).length u),(.slice D ((a0a l0 a2).f4).length E)] 51 (0,0))) ∧ Aside0 (Below w.heap.size w w'))
 case atStart => exact ⟨(a3),(0),qs_,qs_,H',⟨Nat.le_refl _⟩,⟨by refine qdj_ ?_ d;refine qdj_ ?_ d;refine qdj_ ?_ d;refine qdj_ ?_ d;refine qdj_ ?_ d;refine qd_ ?_;exact c.out⟩,⟨by refine qd_ ?_;refine a0h (cs := #[.int .i64 ((a0a l0 a2).f0), .int .i64 ((a0a l0 a2).f1), .int .i64 ((a0a l0 a2).f2), .slice t ((a0a l0 a2).f3).length u, .slice none 0 0]) ?_ 4 _ rfl;refine qd_ ?_;refine a0h (cs := #[.int .i64 ((a0a l0 a2).f0), .int .i64 ((a0a l0 a2).f1), .int .i64 ((a0a l0 a2).f2), .slice none 0 0, .slice none 0 0]) ?_ 3 _ rfl;refine qd_ ?_;refine a0h (cs := #[.int .i64 ((a0a l0 a2).f0), .int .i64 ((a0a l0 a2).f1), .int .i64 0, .slice none 0 0, .slice none 0 0]) ?_ 2 _ rfl;refine qd_ ?_;refine a0h (cs := #[.int .i64 ((a0a l0 a2).f0), .int .i64 0, .int .i64 0, .slice none 0 0, .slice none 0 0]) ?_ 1 _ rfl;refine qd_ ?_;refine a0h (cs := #[.int .i64 0, .int .i64 0, .int .i64 0, .slice none 0 0, .slice none 0 0]) ?_ 0 _ rfl;refine qd_ ?_;exact a.out⟩,⟨qb_⟩⟩
 case round =>
 clear H'
 try clear c1
 try clear c4
 try clear au
 try clear av
 try clear a9 aa ab ac ad
 try clear ae af ag ah ai
 try clear v
 try clear x
 try clear y
 try clear z
 try clear A
 try clear M
 try clear O
 obtain ⟨r,n,rfl,rfl,HA,X,c,a,HB⟩ := hrel
 cases gk with
 | zero => exact absurd HA.out (by simp [a1g.l0])
 | succ k1 =>
 have H := HA.out
 clear HA
 simp only [a1g.l0] at H
 by_cases a0 : n < (((a0a l0 a2).f3).length : Int)
 ·rw [if_pos a0] at H
  have al : decide (n < (((a0a l0 a2).f3).length : Int)) = true := decide_eq_true a0
  clear a0
  obtain ⟨aZ,H⟩ := qid_ H
  replace H := bm_ H
  obtain ⟨B,aw,H⟩ := H
  have bb := am_ aw
  clear aw
  obtain ⟨b0,H⟩ := qid_ H
  obtain ⟨b1,H⟩ := qid_ H
  obtain ⟨aj,G⟩ : ∃ j_ : Int,(mx r ((a0b l4 B).f2)) = j_ := ⟨_,rfl⟩
  replace H : (a1g.l0 k1 l0 l1 a2 l4 aj (wrap64 (n + 1)) ((a0a l0 a2).f0) ((a0a l0 a2).f1) ((a0a l0 a2).f2) ((a0a l0 a2).f3) ((a0a l0 a2).f4)) = some (r1,r2,r3,r4) := by first | (rw [G] at H;exact H) | (simp only [G] at H ⊢;exact H)
  (try rw [G] at bb)
  have bB : (if r < ((a0b l4 B).f2) then ((a0b l4 B).f2) else r) = aj := G
  have H' := am_ H
  clear H
  have d3 := l.out
  have d4 := d.out
  obtain ⟨ax,ay,az,aA,aB⟩ := qz5_ a;obtain ⟨aC,aD,aE,aF,aG⟩ := qf5_ a
  have a5 : 0 ≤ (n : Int) := ot_
  have a6 : n < (((a0a l0 a2).f3).length : Int) := ot_
  obtain ⟨d5,bg,I⟩ := Kd.a4h ap.out n a5 a6
  cases bg
  replace I := qh_ HB I
  replace a5 := eq_true a5
  replace a6 := eq_true a6
  go_wp2_with (first | ((with_reducible refine a0k (f := 36) rfl ?_);refine a1n (some 41) rfl rfl Try.func36 (by kernel_rfl) rfl #[.slice (some a4) l0.length c0, .int .i64 a2, .int .i64 (rd ((a0a l0 a2).f3) n)] rfl ql_ ?_;(with_reducible refine (a1f.calls k1 _ _ l0 a2 (rd ((a0a l0 a2).f3) n) B _ ?s1 aq.out bb.out).mono ?_);(case s1 => exact qc_ ak);rintro e w' ⟨rfl,⟨nd,rfl⟩⟩;refine ⟨_,rfl,?_⟩;have a7 : 0 ≤ (B : Int) := ot_;have a8 : B < (l4.length : Int) := ot_;obtain ⟨d6,bh,J,K,L⟩ := a3w ar.out B a7 a8;cases bh;replace J := qh_ HB J;replace K := qh_ HB K;replace L := qh_ HB L;replace a7 := eq_true a7;replace a8 := eq_true a8))
  go_roundg k1
  case measure => have := X.out;omega
  case rel => exact ⟨(aj),(wrap64 (n + 1)),(by first | rfl | (simp;done) | (simp only [← G] <;> (first | rfl | simp)) | (simp [*];done)),qs_,H',⟨by have := X.out;omega⟩,⟨qk_ c⟩,⟨qk_ a⟩,⟨qb_⟩⟩
 rw [if_neg a0] at H
 have al : decide (n < (((a0a l0 a2).f3).length : Int)) = false := decide_eq_false a0
 clear a0
 replace H := bm_ H
 obtain ⟨⟨p,bi⟩,aH,H⟩ := H
 replace H : (a1g.l1 k1 l0 a2 l4 p r ((a0a l0 a2).f0) ((a0a l0 a2).f1) ((a0a l0 a2).f2) ((a0a l0 a2).f3) ((a0a l0 a2).f4)) = some (r1,r2,r3,r4) := H
 have bC := am_ aH
 clear aH
 have H' := am_ H
 clear H
 have d7 := l.out
 have d8 := d.out
 obtain ⟨aI,aJ,aK,aL,aM⟩ := qz5_ a;obtain ⟨aN,aO,aP,aQ,aR⟩ := qf5_ a
 go_wp2_with (first | ((with_reducible refine a0k (f := 34) rfl ?_);refine a1n (some 50) rfl rfl Try.func34 (by kernel_rfl) rfl #[.slice A1 l1.length c1, .int .i64 ((a0a l0 a2).f1)] rfl ql_ ?_;(with_reducible refine (a1o.calls k1 (fun k_ => k_ < w.heap.size) _ _ l1 ((a0a l0 a2).f1) p bi _ ?s1 bC.out).mono ?_);(case s1 => exact Kd.V_mk bx.out (Kd.a7q (Kd.C_F a8d bw.out) qb_));rintro e dj ⟨bj,rfl,bc,hb⟩;refine ⟨_,rfl,?_⟩;have b2 := am_ (Kd.a8z (Kd.a9g (ok' := fun k_ => k_ ≠ q ∧ k_ ≠ s) bc (fun k_ hk_ => ⟨Or.elim hk_ (fun hs_ => fun e_ => Nat.not_le.2 hs_ (by rw [e_];exact aX.out)) (fun hn_ => (Kd.a6l (g := q) (o := .cells #[.int .i64 0, .int .i64 0, .int .i64 0] 42 (0,0)) (qk_ c) k_ hn_)),Or.elim hk_ (fun hs_ => fun e_ => Nat.not_le.2 hs_ (by rw [e_];exact aY.out)) (fun hn_ => (Kd.a6l (g := s) (o := .cells #[.int .i64 ((a0a l0 a2).f0), .int .i64 ((a0a l0 a2).f1), .int .i64 ((a0a l0 a2).f2), .slice t ((a0a l0 a2).f3).length u, .slice D ((a0a l0 a2).f4).length E] 51 (0,0)) (qk_ a) k_ hn_))⟩)) (a0w qb_));replace c := qkb_ c hb;replace a := qkb_ a hb;replace HB := qbs_ hb;(try clear hb);(try clear bd);(try clear hk);(try clear hi);(try clear bc)))
 go_loopg [17] k1 (fun kq bD w' => ∃ (b : Int) (m : Int) (j : Int) (i : Int),bD = .int .i64 b ∧ Aside0 (a1g.l1 kq l0 a2 l4 p b ((a0a l0 a2).f0) ((a0a l0 a2).f1) ((a0a l0 a2).f2) ((a0a l0 a2).f3) ((a0a l0 a2).f4) = some (r1,r2,r3,r4)) ∧ Aside0 (kq ≤ k1) ∧ Aside0 (Kd.V k56 56 w' w.heap.size (fun k_ => k_ ≠ q ∧ k_ ≠ s) bj p) ∧ Aside0 (w'.heap[q]? = some (.cells #[.int .i64 m, .int .i64 j, .int .i64 i] 42 (0,0))) ∧ Aside0 (w'.heap[s]? = some (.cells #[.int .i64 ((a0a l0 a2).f0), .int .i64 ((a0a l0 a2).f1), .int .i64 ((a0a l0 a2).f2),(.slice t ((a0a l0 a2).f3).length u),(.slice D ((a0a l0 a2).f4).length E)] 51 (0,0))) ∧ Aside0 (Below w.heap.size w w'))
 case atStart => exact ⟨(r),(0),(0),(0),qs_,H',⟨Nat.le_refl _⟩,⟨by (with_reducible repeat (first | apply Kd.V_alloc | apply Kd.a7g | apply Kd.V_drew));exact b2.out⟩,⟨qk_ c⟩,⟨qk_ a⟩,⟨qb_⟩⟩
 case round =>
 clear H'
 try clear c1
 try clear c4
 try clear au
 try clear av
 try clear al
 try clear aZ
 try clear b0
 try clear b1
 try clear a9 aa ab ac ad
 try clear ax ay az aA aB
 try clear aI aJ aK aL aM
 try clear ae af ag ah ai
 try clear aC aD aE aF aG
 try clear aN aO aP aQ aR
 try clear v
 try clear x
 try clear y
 try clear z
 try clear A
 try clear I
 try clear J
 try clear K
 try clear L
 try clear M
 try clear a5
 try clear a7
 try clear O
 try clear a6
 try clear a8
 obtain ⟨b,m,j,i,rfl,HA,am,HO_15,c,a,HB⟩ := hrel
 cases gk with
 | zero => exact absurd HA.out (by simp [a1g.l1])
 | succ k2 =>
 have H := HA.out
 clear HA
 simp only [a1g.l1] at H
 by_cases a1 : (wrap64 (b + ((a0a l0 a2).f2))) ≤ 36525
 rotate_left
 ·rw [if_neg a1] at H
  have b3 : decide ((wrap64 (b + ((a0a l0 a2).f2))) ≤ 36525) = false := decide_eq_false a1
  clear a1
  simp only [Option.some.injEq,Prod.mk.injEq] at H
  obtain ⟨rfl,rfl,rfl,rfl⟩ := H
  have d9 := l.out
  have da := d.out
  obtain ⟨bE,bF,bG,bH,bI⟩ := qz5_ a;obtain ⟨bJ,bK,bL,bM,bN⟩ := qf5_ a
  obtain ⟨bO,bP,bQ⟩ := qz3_ c;obtain ⟨bR,bS,bT⟩ := qf3_ c
  go_wp2
  refine bodyPost_ret (a5n rfl _ _ q 42 #[.int .i64 0, .int .i64 0, .int .i64 0] (0,0) _ rfl (by refine qd_ ?_;refine a0h (cs := #[.int .i64 0, .int .i64 0, .int .i64 i]) ?_ 2 _ rfl;refine qd_ ?_;refine a0h (cs := #[.int .i64 0, .int .i64 j, .int .i64 i]) ?_ 1 _ rfl;refine qd_ ?_;refine a0h (cs := #[.int .i64 m, .int .i64 j, .int .i64 i]) ?_ 0 _ rfl;refine qd_ ?_;exact c.out) Try.underlying42 rfl (by kernel_rfl)) rfl ?_
  exact ⟨qx_,qb_⟩
 rw [if_pos a1] at H
 have b3 : decide ((wrap64 (b + ((a0a l0 a2).f2))) ≤ 36525) = true := decide_eq_true a1
 clear a1
 replace H := bm_ H
 obtain ⟨bk,aS,H⟩ := H
 have aT := am_ aS
 clear aS
 by_cases an : bk = true
 rotate_left
 ·replace an := be_ an
  subst an
  replace H := qin_ H
  have H' := am_ H
  clear H
  have db := l.out
  have dc := d.out
  obtain ⟨bU,bV,bW,bX,bY⟩ := qz5_ a;obtain ⟨bZ,ca,cb,cc,cd⟩ := qf5_ a
  obtain ⟨bl,bm,bn⟩ := Kd.b0d HO_15.out
  subst bn
  go_wp2_with (first | ((with_reducible refine a0k (f := 44) rfl ?_);refine a1n (some 67) rfl rfl Try.func44 (by kernel_rfl) rfl #[.slice bl p.length bm, .int .i64 b, .int .i64 (wrap64 (b + ((a0a l0 a2).f2)))] rfl ql_ ?_;(with_reducible refine (a1r.calls k2 _ _ p b (wrap64 (b + ((a0a l0 a2).f2))) false _ ?s1 ?s2 aT.out).mono ?_);(case s1 => repeat (first | exact (Kd.a5k HO_15.out).2.2 | (with_reducible refine Kd.a2n ?_ _) | (with_reducible refine Kd.a2o ?_ _) | (with_reducible refine Kd.a2u ?_)));(case s2 => exact (Kd.a5k HO_15.out).2.1);rintro e w' ⟨rfl,⟨nd,rfl⟩⟩;refine ⟨_,rfl,?_⟩))
  go_roundg k2
  case measure => have := X.out;have := am.out;omega
  case rel => exact ⟨(wrap64 (b + 1)),(m),(j),(i),qs_,H',⟨by have := X.out;have := am.out;omega⟩,⟨by (with_reducible repeat (first | apply Kd.V_alloc | apply Kd.a7g | apply Kd.V_drew));exact HO_15.out⟩,⟨qk_ c⟩,⟨qk_ a⟩,⟨qb_⟩⟩
 subst an
 replace H := qip_ H
 replace H := bm_ H
 obtain ⟨bo,aU,H⟩ := H
 have be := am_ aU
 clear aU
 by_cases ao : bo = true
 ·subst ao
  replace H := qip_ H
  have H' := am_ H
  clear H
  have dd := l.out
  have de := d.out
  obtain ⟨ce,cf,cg,ch,ci⟩ := qz5_ a;obtain ⟨cj,ck,cl,cm,cn⟩ := qf5_ a
  obtain ⟨bp,bq,br⟩ := Kd.b0d HO_15.out
  subst br
  go_wp2_with (first | ((with_reducible refine a0k (f := 44) rfl ?_);refine a1n (some 67) rfl rfl Try.func44 (by kernel_rfl) rfl #[.slice bp p.length bq, .int .i64 b, .int .i64 (wrap64 (b + ((a0a l0 a2).f2)))] rfl ql_ ?_;(with_reducible refine (a1r.calls k2 _ _ p b (wrap64 (b + ((a0a l0 a2).f2))) true _ ?s1 ?s2 aT.out).mono ?_);(case s1 => repeat (first | exact (Kd.a5k HO_15.out).2.2 | (with_reducible refine Kd.a2n ?_ _) | (with_reducible refine Kd.a2o ?_ _) | (with_reducible refine Kd.a2u ?_)));(case s2 => exact (Kd.a5k HO_15.out).2.1);rintro e w' ⟨rfl,⟨nd,rfl⟩⟩;refine ⟨_,rfl,?_⟩) | ((with_reducible refine a0k (f := 45) rfl ?_);refine a1n (some 78) rfl rfl Try.func45 (by kernel_rfl) rfl #[.slice (some a4) l0.length c0, .int .i64 a2, .int .i64 b, .int .i64 (wrap64 (b + ((a0a l0 a2).f2))), .slice A4 l4.length c4] rfl ql_ ?_;(with_reducible refine (a0m.calls k2 _ _ l0 a2 b (wrap64 (b + ((a0a l0 a2).f2))) _ _ l4 true _ ?s1 aq.out ?s3 ba.out be.out).mono ?_);(case s1 => repeat (first | exact (Kd.a3a ak.out qb_) | (with_reducible refine Kd.a2n ?_ _) | (with_reducible refine Kd.a2o ?_ _) | (with_reducible refine Kd.a2u ?_)));(case s3 => repeat (first | exact (Kd.a3a ar.out qb_) | (with_reducible refine Kd.a2n ?_ _) | (with_reducible refine Kd.a2o ?_ _) | (with_reducible refine Kd.a2u ?_)));rintro e dk ⟨rfl,hb⟩;refine ⟨_,rfl,?_⟩;replace HO_15 := am_ (Kd.b7b (by (with_reducible repeat (first | apply Kd.V_alloc | apply Kd.a7g | apply Kd.V_drew));exact HO_15.out) hb);replace c := qkb_ c hb;replace a := qkb_ a hb;replace HB := qbs_ hb;(try clear hb);(try clear bd);(try clear hk);(try clear hi)))
  go_roundg k2
  case measure => have := X.out;have := am.out;omega
  case rel => exact ⟨(wrap64 (b + 1)),(m),(j),(i),qs_,H',⟨by have := X.out;have := am.out;omega⟩,⟨by (with_reducible repeat (first | apply Kd.V_alloc | apply Kd.a7g | apply Kd.V_drew));exact HO_15.out⟩,⟨qk_ c⟩,⟨qk_ a⟩,⟨qb_⟩⟩
 replace ao := be_ ao
 subst ao
 replace H := qin_ H
 simp only [Option.some.injEq,Prod.mk.injEq] at H
 obtain ⟨rfl,rfl,rfl,rfl⟩ := H
 have df := l.out
 have dg := d.out
 obtain ⟨co,cp,cq,cr,ct⟩ := qz5_ a;obtain ⟨cu,cv,cw,cx,cy⟩ := qf5_ a
 obtain ⟨aV,aW,bs⟩ := Kd.b0d HO_15.out
 subst bs
 go_wp2_with (first | ((with_reducible refine a0k (f := 44) rfl ?_);refine a1n (some 67) rfl rfl Try.func44 (by kernel_rfl) rfl #[.slice aV p.length aW, .int .i64 b, .int .i64 (wrap64 (b + ((a0a l0 a2).f2)))] rfl ql_ ?_;(with_reducible refine (a1r.calls k2 _ _ p b (wrap64 (b + ((a0a l0 a2).f2))) true _ ?s1 ?s2 aT.out).mono ?_);(case s1 => repeat (first | exact (Kd.a5k HO_15.out).2.2 | (with_reducible refine Kd.a2n ?_ _) | (with_reducible refine Kd.a2o ?_ _) | (with_reducible refine Kd.a2u ?_)));(case s2 => exact (Kd.a5k HO_15.out).2.1);rintro e w' ⟨rfl,⟨nd,rfl⟩⟩;refine ⟨_,rfl,?_⟩;(try (rw [a7f wr];generalize hq_ : World.drewN wr _ = wr;replace HO_15 : Aside0 (Kd.V k56 56 wr w.heap.size (fun k_ => k_ ≠ q ∧ k_ ≠ s) (.slice aV p.length aW) p) := ⟨by rw [← hq_];exact (by (with_reducible repeat (first | apply Kd.V_alloc | apply Kd.a7g | apply Kd.V_drew));exact HO_15.out)⟩;replace c : Aside0 (wr.heap[q]? = some (.cells #[.int .i64 m, .int .i64 j, .int .i64 i] 42 (0,0))) := ⟨by rw [← hq_];exact (qk_ c)⟩;replace a : Aside0 (wr.heap[s]? = some (.cells #[.int .i64 ((a0a l0 a2).f0), .int .i64 ((a0a l0 a2).f1), .int .i64 ((a0a l0 a2).f2), .slice t ((a0a l0 a2).f3).length u, .slice D ((a0a l0 a2).f4).length E] 51 (0,0))) := ⟨by rw [← hq_];exact (qk_ a)⟩;replace HB : Aside0 (Below w.heap.size w wr) := ⟨by rw [← hq_];exact qb_⟩;clear hq_));obtain ⟨cz,cA,cB,cC,cD⟩ := qz5_ a;obtain ⟨cE,cF,cG,cH,cI⟩ := qf5_ a) | ((with_reducible refine a0k (f := 45) rfl ?_);refine a1n (some 78) rfl rfl Try.func45 (by kernel_rfl) rfl #[.slice (some a4) l0.length c0, .int .i64 a2, .int .i64 b, .int .i64 (wrap64 (b + ((a0a l0 a2).f2))), .slice A4 l4.length c4] rfl ql_ ?_;(with_reducible refine (a0m.calls k2 _ _ l0 a2 b (wrap64 (b + ((a0a l0 a2).f2))) _ _ l4 false _ ?s1 aq.out ?s3 ba.out be.out).mono ?_);(case s1 => exact qc_ ak);(case s3 => exact qc_ ar);rintro e dl ⟨rfl,hb⟩;refine ⟨_,rfl,?_⟩;replace HO_15 := am_ (Kd.b7b (by (with_reducible repeat (first | apply Kd.V_alloc | apply Kd.a7g | apply Kd.V_drew));exact HO_15.out) hb);replace c := qkb_ c hb;replace a := qkb_ a hb;replace HB := qbs_ hb;(try clear hb);(try clear bd);(try clear hk);(try clear hi);obtain ⟨cJ,cK,cL,cM,cN⟩ := qz5_ a;obtain ⟨cO,cP,cQ,cR,cS⟩ := qf5_ a;obtain ⟨cT,cU,cV⟩ := qz3_ c;obtain ⟨cW,cX,cY⟩ := qf3_ c))
 refine bodyPost_ret (a5n rfl _ _ q 42 #[.int .i64 ((a0a l0 a2).f0), .int .i64 b, .int .i64 (wrap64 (b + ((a0a l0 a2).f2)))] (0,0) _ rfl (by refine qd_ ?_;refine a0h (cs := #[.int .i64 ((a0a l0 a2).f0), .int .i64 b, .int .i64 i]) ?_ 2 _ rfl;refine qd_ ?_;refine a0h (cs := #[.int .i64 ((a0a l0 a2).f0), .int .i64 j, .int .i64 i]) ?_ 1 _ rfl;refine qd_ ?_;refine a0h (cs := #[.int .i64 m, .int .i64 j, .int .i64 i]) ?_ 0 _ rfl;refine qd_ ?_;exact c.out) Try.underlying42 rfl (by kernel_rfl)) rfl ?_
 exact ⟨qx_,qb_⟩
end Go.Proofs.Ytheibjkjmkanoaa.Px
