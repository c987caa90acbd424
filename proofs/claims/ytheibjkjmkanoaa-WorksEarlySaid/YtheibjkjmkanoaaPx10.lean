/- Contracts of Go functions, printed. Conditions: as each theorem states. -/
import Derived.Test.YtheibjkjmkanoaaPx0
import Derived.Test.YtheibjkjmkanoaaPx9
namespace Go.Proofs.Ytheibjkjmkanoaa.Px
open Go.Proofs.Ytheibjkjmkanoaa.Given
open Go.RowKit Go.Proofs.YtheibjkjmkanoaaW.PrintWords Go.Proofs.YtheibjkjmkanoaaW.PrintLast Go.Proofs.YtheibjkjmkanoaaW.PrintMore
attribute [local go_sem] a3m a3n a3x a3y a3e a3f a3o a3p
set_option linter.unusedVariables false
set_option linter.unusedSimpArgs false
mutual
def a0u.l0 : Nat → Int → Int → List (S42) → List Int → Int → Int → List (Int × Int) → List (Int × List (S56)) → List (S51) → Int → Int → Int → List Int → List Int → Option (Int × Int × Int × Bool)
 | 0,_,_,_,_,_,_,_,_,_,_,_,_,_,_ => none
 | k + 1,x1,x2,x3,b,c,a,u0,u1,u2,u3,u4,u5,u6,u7 => if a < c then (if 0 ≤ a then (if a < (b.length : Int) then (if 0 ≤ (a1z u0 (rd b a)) then (if (a1z u0 (rd b a)) < (x3.length : Int) then (a0u.l0 k x1 (mx x2 ((a0b x3 (a1z u0 (rd b a))).f2)) x3 b c (wrap64 (a + 1)) u0 u1 u2 u3 u4 u5 u6 u7) else (none)) else (none)) else (none)) else (none)) else (a0u.l1 k x1 x2 x3 (a3q u1 u4) ((a3q u1 u4).length : Int) 0 u0 u1 u2 u3 u4 u5 u6 u7)
def a0u.l1 : Nat → Int → Int → List (S42) → List (S56) → Int → Int → List (Int × Int) → List (Int × List (S56)) → List (S51) → Int → Int → Int → List Int → List Int → Option (Int × Int × Int × Bool)
 | 0,_,_,_,_,_,_,_,_,_,_,_,_,_,_ => none
 | k + 1,x1,x2,x3,b,c,a,u0,u1,u2,u3,u4,u5,u6,u7 => if a < c then (if 0 ≤ a then (if a < (b.length : Int) then (a0u.l2 k x1 (mx x2 ((a0h b a).f0)) x3 b c a u0 u1 u2 u3 u4 u5 u6 u7 ((a0h b a).f0) ((a0h b a).f1)) else (none)) else (none)) else (some (0,0,0,false))
def a0u.l2 : Nat → Int → Int → List (S42) → List (S56) → Int → Int → List (Int × Int) → List (Int × List (S56)) → List (S51) → Int → Int → Int → List Int → List Int → Int → Int → Option (Int × Int × Int × Bool)
 | 0,_,_,_,_,_,_,_,_,_,_,_,_,_,_,_,_ => none
 | k + 1,x1,x2,x3,b,c,d,u0,u1,u2,u3,u4,u5,u6,u7,u8,u9 => if (wrap64 (x2 + u5)) ≤ u9 then ((a2p.f k u2 u0 u1 x1 u3 x2 (wrap64 (x2 + u5)) x3).bind fun a => (if a.2.2.2 = true then (if a.2.2.1 ≥ u9 then (a0u.l1 k x1 a.2.2.1 x3 b c (wrap64 (d + 1)) u0 u1 u2 u3 u4 u5 u6 u7) else (a0u.l2 k x1 a.2.2.1 x3 b c d u0 u1 u2 u3 u4 u5 u6 u7 u8 u9)) else (some (u3,x2,wrap64 (x2 + u5),true)))) else (a0u.l1 k x1 x2 x3 b c (wrap64 (d + 1)) u0 u1 u2 u3 u4 u5 u6 u7)
end
def a0u.f (k : Nat) (a : List (S51)) (b : List (Int × Int)) (c : List (Int × List (S56))) (a1 a2 : Int) (l3 : List (S42)) : Option (Int × Int × Int × Bool) := if 0 ≤ a1 then (if a1 < (a.length : Int) then (a0u.l0 k a1 a2 l3 ((a0a a a1).f3) (((a0a a a1).f3).length : Int) 0 b c a ((a0a a a1).f0) ((a0a a a1).f1) ((a0a a a1).f2) ((a0a a a1).f3) ((a0a a a1).f4)) else (none)) else (none)
theorem a0u.a1h : ∀ k,(∀ y0 y1 y2 y3 y4 y5 y6 y7 y8 y9 a b c d,LeO (a0u.l0 k y0 y1 y2 y3 y4 y5 y6 y7 y8 y9 a b c d) (a0u.l0 (k + 1) y0 y1 y2 y3 y4 y5 y6 y7 y8 y9 a b c d)) ∧ (∀ y0 y1 y2 y3 y4 y5 y6 y7 y8 y9 a b c d,LeO (a0u.l1 k y0 y1 y2 y3 y4 y5 y6 y7 y8 y9 a b c d) (a0u.l1 (k + 1) y0 y1 y2 y3 y4 y5 y6 y7 y8 y9 a b c d)) ∧ (∀ y0 y1 y2 y3 y4 y5 y6 y7 y8 y9 a b c d e g,LeO (a0u.l2 k y0 y1 y2 y3 y4 y5 y6 y7 y8 y9 a b c d e g) (a0u.l2 (k + 1) y0 y1 y2 y3 y4 y5 y6 y7 y8 y9 a b c d e g))
 | 0 => ⟨fun _ _ _ _ _ _ _ _ _ _ _ _ _ _ r h => by simp [a0u.l0] at h,fun _ _ _ _ _ _ _ _ _ _ _ _ _ _ r h => by simp [a0u.l1] at h,fun _ _ _ _ _ _ _ _ _ _ _ _ _ _ _ _ r h => by simp [a0u.l2] at h⟩
 | k + 1 => by
  obtain ⟨i,j,l⟩ := a0u.a1h k
  refine ⟨?_,?_,?_⟩ <;> intros <;> (first | unfold a0u.l0 | unfold a0u.l1 | unfold a0u.l2) <;> with_reducible (repeat' first | apply i | apply j | apply l | apply a2p.mono | apply LeO.refl | apply LeO.none | apply LeO.ite | refine LeO.bind ?_ (fun _ => ?_))
theorem a0u.mono : ∀ a0 a1 a2 a3 a4 a5 k,LeO (a0u.f k a0 a1 a2 a3 a4 a5) (a0u.f (k + 1) a0 a1 a2 a3 a4 a5) := by
 intro a0 a1 a2 a3 a4 a5 k
 obtain ⟨a,b,c⟩ := a0u.a1h k
 unfold a0u.f
 with_reducible (repeat' first | apply a | apply b | apply c | apply a2p.mono | apply LeO.refl | apply LeO.none | apply LeO.ite | refine LeO.bind ?_ (fun _ => ?_))
set_option maxHeartbeats 8000000 in
set_option maxRecDepth 100000 in
theorem a0u.calls (k : Nat) (cx : Option Addr) (aE : Nat) (a : List (S51)) (E : List (Int × Int)) (n : List (Int × List (S56))) (r s : Nat) (gh_a0_2 : List (Int × (List (S56) × Value))) (a1 a2 : Int) (A3 : Option Addr) (c3 : Nat) (l3 : List (S42)) (r1 r2 r3 : Int) (r4 : Bool) (w : World) (cE : Kd.C k51 w cx a.length a) (cF : a.length ≤ aE) (d7 : Kd.C k42 w A3 l3.length l3) (d8 : l3.length ≤ c3) (bY : w.heap[r]? = some (a1i (Value.int .i64) E)) (bZ : w.heap[s]? = some (a1i (fun e_ : List (S56) × Value => e_.2) gh_a0_2)) (c0 : a5n gh_a0_2 = n) (c1 : a5a k56 w gh_a0_2) (aT : r ≠ s) (h : a0u.f k a E n a1 a2 l3 = some (r1,r2,r3,r4)) :
  Calls Try.prog 55 #[.agg #[.slice cx a.length aE, .map (some r), .map (some s)], .int .i64 a1, .int .i64 a2, .slice A3 l3.length c3] w fun e w' => e = .returned (.tuple #[.agg #[.int .i64 r1, .int .i64 r2, .int .i64 r3], .bool r4]) ∧ Below w.heap.size w w' := by
 have jJ := Try.underlying62
 have jK := Try.underlying42
 have jL := Try.underlying51
 have jM := Try.underlying56
 have bh := am_ cE
 have bU := am_ cF
 clear cE cF
 have cG := am_ d7
 have cU := am_ d8
 clear d7 d8
 have c := am_ bY
 clear bY
 have d := am_ bZ
 clear bZ
 have bi := am_ c0
 have bj := am_ c1
 clear c0 c1
 have aU := am_ aT
 have d9 := am_ aT.symm
 clear aT
 have HB := am_ (Below.refl w.heap.size w)
 have H : (if 0 ≤ a1 then (if a1 < (a.length : Int) then (a0u.l0 k a1 a2 l3 ((a0a a a1).f3) (((a0a a a1).f3).length : Int) 0 E n a ((a0a a a1).f0) ((a0a a a1).f1) ((a0a a a1).f2) ((a0a a a1).f3) ((a0a a a1).f4)) else (none)) else (none)) = some (r1,r2,r3,r4) := h
 clear h
 obtain ⟨cy,H⟩ := qid_ H
 obtain ⟨cz,H⟩ := qid_ H
 have H' := am_ H
 clear H
 go_enter Try.func55,Try.ntmps55
 go_wp2_with (first | ((with_reducible refine a0t (N := 4) rfl ?_);refine qev_ 4 #[.slice cx a.length aE, .map (some r), .map (some s)] 62 ?_;intro aV hg w7 hbox hb;have b := am_ (hbox);have hA := qga_ hg;have hB := qga_ hg;replace HB := qbs_ hb;obtain ⟨ab,ac⟩ := qnb_ hg c;replace c := qkb_ c hb;obtain ⟨ad,ae⟩ := qnb_ hg d;replace d := qkb_ d hb;clear hb hbox hg) | ((with_reducible refine a0t (N := 8) rfl ?_);refine qev_ 8 #[.int .i64 0, .int .i64 0, .int .i64 0] 42 ?_;intro aJ hg w8 hbox hb;have j := am_ (hbox);have hC := qga_ hg;have hD := qga_ hg;replace HB := qbs_ hb;obtain ⟨bc,bd⟩ := qnb_ hg c;replace c := qkb_ c hb;obtain ⟨be,bf⟩ := qnb_ hg d;replace d := qkb_ d hb;obtain ⟨a0,a3⟩ := qnb_ hg b;replace b := qkb_ b hb;clear hb hbox hg))
 first | refine b4e ?_ | go_step3
 have jN := ac.out
 have jO := ab.out
 have hE := ae.out
 have hF := ad.out
 have hG := a0.out
 have hH := a3.out
 obtain ⟨bm,bn,bo⟩ := qz3_ b;obtain ⟨bp,bq,br⟩ := qf3_ b
 have b4 : 0 ≤ (a1 : Int) := ot_
 have b5 : a1 < (a.length : Int) := ot_
 obtain ⟨aF,aG,aH,aM,aN,db,aO,aP,aQ,aR,aS,bK,bL,bM,bN⟩ := a5j bh.out a1 b4 b5
 cases db
 replace aO := qh_ HB aO
 replace aP := qh_ HB aP
 replace aQ := qh_ HB aQ
 replace aR := qh_ HB aR
 replace aS := qh_ HB aS
 have cS := am_ bL
 have df := am_ bK
 clear bL bK
 have dg := am_ bN
 have dh := am_ bM
 clear bN bM
 replace b4 := eq_true b4
 replace b5 := eq_true b5
 go_wp2_with (first | ((with_reducible refine a0t (N := 10) rfl ?_);refine qev_ 10 #[.int .i64 0, .int .i64 0, .int .i64 0, .slice none 0 0, .slice none 0 0] 51 ?_;intro aW hg jU hbox hb;have i := am_ (hbox);have hI := qga_ hg;have hJ := qga_ hg;replace HB := qbs_ hb;obtain ⟨G,af⟩ := qnb_ hg c;replace c := qkb_ c hb;obtain ⟨J,ag⟩ := qnb_ hg d;replace d := qkb_ d hb;obtain ⟨B,a4⟩ := qnb_ hg b;replace b := qkb_ b hb;obtain ⟨D,a5⟩ := qnb_ hg j;replace j := qkb_ j hb;clear hb hbox hg;have hK := af.out;have hL := G.out;have hM := ag.out;have hN := J.out;have hO := a4.out;have hP := B.out;have hQ := a5.out;have hR := D.out;obtain ⟨bs,bt,bu,bv,bw⟩ := qz5_ i;obtain ⟨bx,bz,bA,bB,bC⟩ := qf5_ i))
 go_loopg [2,26] k (fun kq v2 eH w' => ∃ (b1 : Int) (X : Int),v2 = .int .i64 b1 ∧ eH = .int .i64 X ∧ Aside0 (a0u.l0 kq a1 b1 l3 ((a0a a a1).f3) (((a0a a a1).f3).length : Int) X E n a ((a0a a a1).f0) ((a0a a a1).f1) ((a0a a a1).f2) ((a0a a a1).f3) ((a0a a a1).f4) = some (r1,r2,r3,r4)) ∧ Aside0 (kq ≤ k) ∧ Aside0 (w'.heap[r]? = some (a1i (Value.int .i64) E)) ∧ Aside0 (w'.heap[s]? = some (a1i (fun e_ : List (S56) × Value => e_.2) gh_a0_2)) ∧ Aside0 (w'.heap[aV]? = some (.cells #[(.slice (some aF) a.length aE), .map (some r), .map (some s)] 62 (0,0))) ∧ Aside0 (w'.heap[aJ]? = some (.cells #[.int .i64 0, .int .i64 0, .int .i64 0] 42 (0,0))) ∧ Aside0 (w'.heap[aW]? = some (.cells #[.int .i64 ((a0a a a1).f0), .int .i64 ((a0a a a1).f1), .int .i64 ((a0a a a1).f2),(.slice aG ((a0a a a1).f3).length aH),(.slice aM ((a0a a a1).f4).length aN)] 51 (0,0))) ∧ Aside0 (Below w.heap.size w w'))
 case atStart => exact ⟨(a2),(0),qs_,qs_,H',⟨Nat.le_refl _⟩,⟨by refine qd_ ?_;refine a0e ?_ G.out _;refine qd_ ?_;refine a0e ?_ G.out _;refine qd_ ?_;refine a0e ?_ G.out _;refine qd_ ?_;refine a0e ?_ G.out _;refine qd_ ?_;refine a0e ?_ G.out _;refine qd_ ?_;exact c.out⟩,⟨by refine qd_ ?_;refine a0e ?_ J.out _;refine qd_ ?_;refine a0e ?_ J.out _;refine qd_ ?_;refine a0e ?_ J.out _;refine qd_ ?_;refine a0e ?_ J.out _;refine qd_ ?_;refine a0e ?_ J.out _;refine qd_ ?_;exact d.out⟩,⟨by refine qdj_ ?_ B;refine qdj_ ?_ B;refine qdj_ ?_ B;refine qdj_ ?_ B;refine qdj_ ?_ B;refine qd_ ?_;exact b.out⟩,⟨by refine qdj_ ?_ D;refine qdj_ ?_ D;refine qdj_ ?_ D;refine qdj_ ?_ D;refine qdj_ ?_ D;refine qd_ ?_;exact j.out⟩,⟨by refine qd_ ?_;refine a0g (cs := #[.int .i64 ((a0a a a1).f0), .int .i64 ((a0a a a1).f1), .int .i64 ((a0a a a1).f2), .slice aG ((a0a a a1).f3).length aH, .slice none 0 0]) ?_ 4 _ rfl;refine qd_ ?_;refine a0g (cs := #[.int .i64 ((a0a a a1).f0), .int .i64 ((a0a a a1).f1), .int .i64 ((a0a a a1).f2), .slice none 0 0, .slice none 0 0]) ?_ 3 _ rfl;refine qd_ ?_;refine a0g (cs := #[.int .i64 ((a0a a a1).f0), .int .i64 ((a0a a a1).f1), .int .i64 0, .slice none 0 0, .slice none 0 0]) ?_ 2 _ rfl;refine qd_ ?_;refine a0g (cs := #[.int .i64 ((a0a a a1).f0), .int .i64 0, .int .i64 0, .slice none 0 0, .slice none 0 0]) ?_ 1 _ rfl;refine qd_ ?_;refine a0g (cs := #[.int .i64 0, .int .i64 0, .int .i64 0, .slice none 0 0, .slice none 0 0]) ?_ 0 _ rfl;refine qd_ ?_;exact i.out⟩,⟨qb_⟩⟩
 case round =>
 clear H'
 try clear c3
 try clear cy
 try clear cz
 try clear bm bn bo
 try clear bs bt bu bv bw
 try clear bp bq br
 try clear bx bz bA bB bC
 try clear aO
 try clear aP
 try clear aQ
 try clear aR
 try clear aS
 try clear b4
 try clear b5
 obtain ⟨b1,X,rfl,rfl,HA,bg,c,d,b,j,i,HB⟩ := hrel
 cases gk with
 | zero => exact absurd HA.out (by simp [a0u.l0])
 | succ k1 =>
 have H := HA.out
 clear HA
 simp only [a0u.l0] at H
 by_cases bO : X < (((a0a a a1).f3).length : Int)
 ·rw [if_pos bO] at H
  have bV : decide (X < (((a0a a a1).f3).length : Int)) = true := decide_eq_true bO
  clear bO
  obtain ⟨cH,H⟩ := qid_ H
  obtain ⟨cI,H⟩ := qid_ H
  obtain ⟨cJ,H⟩ := qid_ H
  obtain ⟨cK,H⟩ := qid_ H
  obtain ⟨cA,bk⟩ : ∃ j_ : Int,(mx b1 ((a0b l3 (a1z E (rd ((a0a a a1).f3) X))).f2)) = j_ := ⟨_,rfl⟩
  replace H : (a0u.l0 k1 a1 cA l3 ((a0a a a1).f3) (((a0a a a1).f3).length : Int) (wrap64 (X + 1)) E n a ((a0a a a1).f0) ((a0a a a1).f1) ((a0a a a1).f2) ((a0a a a1).f3) ((a0a a a1).f4)) = some (r1,r2,r3,r4) := by first | (rw [bk] at H;exact H) | (simp only [bk] at H ⊢;exact H)
  have eI : (if b1 < ((a0b l3 (a1z E (rd ((a0a a a1).f3) X))).f2) then ((a0b l3 (a1z E (rd ((a0a a a1).f3) X))).f2) else b1) = cA := bk
  have H' := am_ H
  clear H
  have bD : 0 ≤ (X : Int) := ot_
  have bE : X < (((a0a a a1).f3).length : Int) := ot_
  obtain ⟨hS,dc,aX⟩ := Kd.a4t cS.out X bD bE
  cases dc
  replace aX := qh_ HB aX
  replace bD := eq_true bD
  replace bE := eq_true bE
  have hT := ac.out
  have hU := ab.out
  have hV := ae.out
  have hW := ad.out
  have hX := a0.out
  have hY := a3.out
  have hZ := B.out
  have i0 := a4.out
  obtain ⟨ca,cb,cc⟩ := qz3_ b;obtain ⟨cd,ce,cf⟩ := qf3_ b
  have bF : 0 ≤ ((a1z E (rd ((a0a a a1).f3) X)) : Int) := ot_
  have bG : (a1z E (rd ((a0a a a1).f3) X)) < (l3.length : Int) := ot_
  obtain ⟨i1,dd,aY,aZ,b0⟩ := a4h cG.out (a1z E (rd ((a0a a a1).f3) X)) bF bG
  cases dd
  replace aY := qh_ HB aY
  replace aZ := qh_ HB aZ
  replace b0 := qh_ HB b0
  replace bF := eq_true bF
  replace bG := eq_true bG
  go_wp2_with (first | ((with_reducible refine a0t (N := 35) rfl ?_);refine b0f rfl (N := 35) rfl rfl (M := E) (k := rd ((a0a a a1).f3) X) Try.underlying59 Try.underlying3 (a7i _) (qk_ c) rfl ?hx ?_;(case hx => first | rfl | (go_simp;done) | (go_simp;rfl))))
  go_roundg k1
  case measure => have := bg.out;omega
  case rel => exact ⟨(cA),(wrap64 (X + 1)),(by first | rfl | (simp;done) | (simp only [← bk] <;> (first | rfl | simp)) | (simp [*];done)),qs_,H',⟨by have := bg.out;omega⟩,⟨qk_ c⟩,⟨qk_ d⟩,⟨qk_ b⟩,⟨qk_ j⟩,⟨qk_ i⟩,⟨qb_⟩⟩
 rw [if_neg bO] at H
 have bV : decide (X < (((a0a a a1).f3).length : Int)) = false := decide_eq_false bO
 clear bO
 have H' := am_ H
 clear H
 obtain ⟨i2,i3,b6,b7,b8⟩ := a5a.look bj.out ((a0a a a1).f1)
 rw [bi.out] at b6 b7 b8
 have cT := am_ b6
 have cV := am_ b8
 have eJ := am_ b7
 clear b6 b8 b7
 go_wp2
 first | refine b4e ?_ | go_step3
 have i4 := ac.out
 have i5 := ab.out
 have i6 := ae.out
 have i7 := ad.out
 have i8 := a0.out
 have i9 := a3.out
 have ia := B.out
 have ib := a4.out
 obtain ⟨cg,ch,ci⟩ := qz3_ b;obtain ⟨cj,ck,cl⟩ := qf3_ b
 have ic := af.out
 have id := G.out
 have ie := ag.out
 have ig := J.out
 have ih := a5.out
 have ii := D.out
 obtain ⟨cm,cn,co,cp,cq⟩ := qz5_ i;obtain ⟨cr,ct,cu,cv,cw⟩ := qf5_ i
 go_wp2_with (first | ((with_reducible refine a0t (N := 45) rfl ?_);refine a6z rfl (N := 45) rfl rfl (M := gh_a0_2) (k := ((a0a a a1).f1)) Try.underlying60 Try.underlying3 (a6e _) (qk_ d) rfl ?hx cT.out ?_;(case hx => first | rfl | (go_simp;done) | (go_simp;rfl))))
 go_loopg [2,47] k1 (fun kq v2 eK w' => ∃ (b9 : Int) (q : Int) (aK : Int) (ai : Int) (ah : Int),v2 = .int .i64 b9 ∧ eK = .int .i64 q ∧ Aside0 (a0u.l1 kq a1 b9 l3 (a3q n ((a0a a a1).f1)) ((a3q n ((a0a a a1).f1)).length : Int) q E n a ((a0a a a1).f0) ((a0a a a1).f1) ((a0a a a1).f2) ((a0a a a1).f3) ((a0a a a1).f4) = some (r1,r2,r3,r4)) ∧ Aside0 (kq ≤ k1) ∧ Aside0 (w'.heap[r]? = some (a1i (Value.int .i64) E)) ∧ Aside0 (w'.heap[s]? = some (a1i (fun e_ : List (S56) × Value => e_.2) gh_a0_2)) ∧ Aside0 (w'.heap[aV]? = some (.cells #[(.slice (some aF) a.length aE), .map (some r), .map (some s)] 62 (0,0))) ∧ Aside0 (w'.heap[aJ]? = some (.cells #[.int .i64 aK, .int .i64 ai, .int .i64 ah] 42 (0,0))) ∧ Aside0 (w'.heap[aW]? = some (.cells #[.int .i64 ((a0a a a1).f0), .int .i64 ((a0a a a1).f1), .int .i64 ((a0a a a1).f2),(.slice aG ((a0a a a1).f3).length aH),(.slice aM ((a0a a a1).f4).length aN)] 51 (0,0))) ∧ Aside0 (Below w.heap.size w w'))
 case atStart => exact ⟨(b1),(0),(0),(0),(0),qs_,qs_,H',⟨Nat.le_refl _⟩,⟨qk_ c⟩,⟨qk_ d⟩,⟨qk_ b⟩,⟨qk_ j⟩,⟨qk_ i⟩,⟨qb_⟩⟩
 case round =>
 clear H'
 try clear c3
 try clear cy
 try clear cz
 try clear bV
 try clear cH
 try clear cI
 try clear cJ
 try clear cK
 try clear bm bn bo
 try clear bs bt bu bv bw
 try clear ca cb cc
 try clear cg ch ci
 try clear cm cn co cp cq
 try clear bp bq br
 try clear bx bz bA bB bC
 try clear cd ce cf
 try clear cj ck cl
 try clear cr ct cu cv cw
 try clear aO
 try clear aP
 try clear aQ
 try clear aR
 try clear aS
 try clear aX
 try clear aY
 try clear aZ
 try clear b0
 try clear b4
 try clear bD
 try clear bF
 try clear b5
 try clear bE
 try clear bG
 obtain ⟨b9,q,aK,ai,ah,rfl,rfl,HA,bP,c,d,b,j,i,HB⟩ := hrel
 cases gk with
 | zero => exact absurd HA.out (by simp [a0u.l1])
 | succ k2 =>
 have H := HA.out
 clear HA
 simp only [a0u.l1] at H
 by_cases bQ : q < ((a3q n ((a0a a a1).f1)).length : Int)
 rotate_left
 ·rw [if_neg bQ] at H
  have cL : decide (q < ((a3q n ((a0a a a1).f1)).length : Int)) = false := decide_eq_false bQ
  clear bQ
  simp only [Option.some.injEq,Prod.mk.injEq] at H
  obtain ⟨rfl,rfl,rfl,rfl⟩ := H
  have eL := bd.out
  have eM := bc.out
  have eN := bf.out
  have eO := be.out
  have eP := a3.out
  have eQ := a0.out
  have eR := D.out
  have eS := a5.out
  obtain ⟨di,dj,dk⟩ := qz3_ j;obtain ⟨dl,dm,dn⟩ := qf3_ j
  go_wp2
  refine bodyPost_ret (a5y rfl _ _ aJ 42 #[.int .i64 0, .int .i64 0, .int .i64 0] (0,0) _ rfl (by refine qd_ ?_;refine a0g (cs := #[.int .i64 0, .int .i64 0, .int .i64 ah]) ?_ 2 _ rfl;refine qd_ ?_;refine a0g (cs := #[.int .i64 0, .int .i64 ai, .int .i64 ah]) ?_ 1 _ rfl;refine qd_ ?_;refine a0g (cs := #[.int .i64 aK, .int .i64 ai, .int .i64 ah]) ?_ 0 _ rfl;refine qd_ ?_;exact j.out) Try.underlying42 rfl (by kernel_rfl)) rfl ?_
  exact ⟨qx_,qb_⟩
 rw [if_pos bQ] at H
 have cL : decide (q < ((a3q n ((a0a a a1).f1)).length : Int)) = true := decide_eq_true bQ
 clear bQ
 obtain ⟨d3,H⟩ := qid_ H
 obtain ⟨d4,H⟩ := qid_ H
 obtain ⟨cB,b2⟩ : ∃ j_ : Int,(mx b9 ((a0h (a3q n ((a0a a a1).f1)) q).f0)) = j_ := ⟨_,rfl⟩
 replace H : (a0u.l2 k2 a1 cB l3 (a3q n ((a0a a a1).f1)) ((a3q n ((a0a a a1).f1)).length : Int) q E n a ((a0a a a1).f0) ((a0a a a1).f1) ((a0a a a1).f2) ((a0a a a1).f3) ((a0a a a1).f4) ((a0h (a3q n ((a0a a a1).f1)) q).f0) ((a0h (a3q n ((a0a a a1).f1)) q).f1)) = some (r1,r2,r3,r4) := by first | (rw [b2] at H;exact H) | (simp only [b2] at H ⊢;exact H)
 have eT : (if b9 < ((a0h (a3q n ((a0a a a1).f1)) q).f0) then ((a0h (a3q n ((a0a a a1).f1)) q).f0) else b9) = cB := b2
 have H' := am_ H
 clear H
 have bW : 0 ≤ (q : Int) := ot_
 have bX : q < ((a3q n ((a0a a a1).f1)).length : Int) := ot_
 obtain ⟨ij,de,ba,bb⟩ := a5k cV.out q bW bX
 cases de
 replace ba := qh_ HB ba
 replace bb := qh_ HB bb
 replace bW := eq_true bW
 replace bX := eq_true bX
 go_wp2_with (first | ((with_reducible refine a0t (N := 14) rfl ?_);refine qev_ 14 #[.int .i64 0, .int .i64 0] 56 ?_;intro bl hg jV hbox hb;have p := am_ (hbox);have ik := qga_ hg;have il := qga_ hg;replace HB := qbs_ hb;obtain ⟨a6,aj⟩ := qnb_ hg c;replace c := qkb_ c hb;obtain ⟨a7,ak⟩ := qnb_ hg d;replace d := qkb_ d hb;obtain ⟨a8,al⟩ := qnb_ hg b;replace b := qkb_ b hb;obtain ⟨a9,am⟩ := qnb_ hg j;replace j := qkb_ j hb;obtain ⟨aa,an⟩ := qnb_ hg i;replace i := qkb_ i hb;clear hb hbox hg;have im := aj.out;have io := a6.out;have ip := ak.out;have iq := a7.out;have ir := al.out;have it := a8.out;have iu := am.out;have iv := a9.out;have iw := an.out;have ix := aa.out;obtain ⟨cW,cX⟩ := qz2_ p;obtain ⟨cY,cZ⟩ := qf2_ p))
 go_loopg [2] k2 (fun kq v2 w' => ∃ (t : Int) (Y : Int) (W : Int) (K : Int),v2 = .int .i64 t ∧ Aside0 (a0u.l2 kq a1 t l3 (a3q n ((a0a a a1).f1)) ((a3q n ((a0a a a1).f1)).length : Int) q E n a ((a0a a a1).f0) ((a0a a a1).f1) ((a0a a a1).f2) ((a0a a a1).f3) ((a0a a a1).f4) ((a0h (a3q n ((a0a a a1).f1)) q).f0) ((a0h (a3q n ((a0a a a1).f1)) q).f1) = some (r1,r2,r3,r4)) ∧ Aside0 (kq ≤ k2) ∧ Aside0 (w'.heap[r]? = some (a1i (Value.int .i64) E)) ∧ Aside0 (w'.heap[s]? = some (a1i (fun e_ : List (S56) × Value => e_.2) gh_a0_2)) ∧ Aside0 (w'.heap[aV]? = some (.cells #[(.slice (some aF) a.length aE), .map (some r), .map (some s)] 62 (0,0))) ∧ Aside0 (w'.heap[aJ]? = some (.cells #[.int .i64 Y, .int .i64 W, .int .i64 K] 42 (0,0))) ∧ Aside0 (w'.heap[aW]? = some (.cells #[.int .i64 ((a0a a a1).f0), .int .i64 ((a0a a a1).f1), .int .i64 ((a0a a a1).f2),(.slice aG ((a0a a a1).f3).length aH),(.slice aM ((a0a a a1).f4).length aN)] 51 (0,0))) ∧ Aside0 (w'.heap[bl]? = some (.cells #[.int .i64 ((a0h (a3q n ((a0a a a1).f1)) q).f0), .int .i64 ((a0h (a3q n ((a0a a a1).f1)) q).f1)] 56 (0,0))) ∧ Aside0 (Below w.heap.size w w'))
 case atStart => exact ⟨(cB),(aK),(ai),(ah),(by first | rfl | (simp;done) | (simp only [← b2] <;> (first | rfl | simp)) | (simp [*];done)),H',⟨Nat.le_refl _⟩,⟨by refine qd_ ?_;refine a0e ?_ a6.out _;refine qd_ ?_;refine a0e ?_ a6.out _;refine qd_ ?_;exact c.out⟩,⟨by refine qd_ ?_;refine a0e ?_ a7.out _;refine qd_ ?_;refine a0e ?_ a7.out _;refine qd_ ?_;exact d.out⟩,⟨by refine qdj_ ?_ a8;refine qdj_ ?_ a8;refine qd_ ?_;exact b.out⟩,⟨by refine qdj_ ?_ a9;refine qdj_ ?_ a9;refine qd_ ?_;exact j.out⟩,⟨by refine qdj_ ?_ aa;refine qdj_ ?_ aa;refine qd_ ?_;exact i.out⟩,⟨by refine qd_ ?_;refine a0g (cs := #[.int .i64 ((a0h (a3q n ((a0a a a1).f1)) q).f0), .int .i64 0]) ?_ 1 _ rfl;refine qd_ ?_;refine a0g (cs := #[.int .i64 0, .int .i64 0]) ?_ 0 _ rfl;refine qd_ ?_;exact p.out⟩,⟨qb_⟩⟩
 case round =>
 clear H'
 try clear c3
 try clear cy
 try clear cz
 try clear bV
 try clear cH
 try clear cI
 try clear cJ
 try clear cK
 try clear cL
 try clear d3
 try clear d4
 try clear bm bn bo
 try clear bs bt bu bv bw
 try clear ca cb cc
 try clear cg ch ci
 try clear cm cn co cp cq
 try clear cW cX
 try clear bp bq br
 try clear bx bz bA bB bC
 try clear cd ce cf
 try clear cj ck cl
 try clear cr ct cu cv cw
 try clear cY cZ
 try clear aO
 try clear aP
 try clear aQ
 try clear aR
 try clear aS
 try clear aX
 try clear aY
 try clear aZ
 try clear b0
 try clear ba
 try clear bb
 try clear b4
 try clear bD
 try clear bF
 try clear bW
 try clear b5
 try clear bE
 try clear bG
 try clear bX
 obtain ⟨t,Y,W,K,rfl,HA,bR,c,d,b,j,i,p,HB⟩ := hrel
 cases gk with
 | zero => exact absurd HA.out (by simp [a0u.l2])
 | succ k3 =>
 have H := HA.out
 clear HA
 simp only [a0u.l2] at H
 by_cases bS : (wrap64 (t + ((a0a a a1).f2))) ≤ ((a0h (a3q n ((a0a a a1).f1)) q).f1)
 rotate_left
 ·rw [if_neg bS] at H
  have d5 : decide ((wrap64 (t + ((a0a a a1).f2))) ≤ ((a0h (a3q n ((a0a a a1).f1)) q).f1)) = false := decide_eq_false bS
  clear bS
  have H' := am_ H
  clear H
  have eU := af.out
  have eV := G.out
  have eW := ag.out
  have eX := J.out
  have eY := a4.out
  have eZ := B.out
  have f5 := a5.out
  have f6 := D.out
  have f7 := aa.out
  have f8 := an.out
  obtain ⟨dp,dq,dr,ds,dt⟩ := qz5_ i;obtain ⟨du,dv,dw,dx,dy⟩ := qf5_ i
  have f9 := aj.out
  have fa := a6.out
  have fb := ak.out
  have fc := a7.out
  have fd := al.out
  have fe := a8.out
  have ff := am.out
  have fg := a9.out
  obtain ⟨dz,dA⟩ := qz2_ p;obtain ⟨dB,dC⟩ := qf2_ p
  go_wp2
  go_roundg k3
  case measure => have := bg.out;have := bP.out;have := bR.out;omega
  case rel => exact ⟨(t),(wrap64 (q + 1)),(Y),(W),(K),qs_,qs_,H',⟨by have := bg.out;have := bP.out;have := bR.out;omega⟩,⟨qk_ c⟩,⟨qk_ d⟩,⟨qk_ b⟩,⟨qk_ j⟩,⟨qk_ i⟩,⟨qb_⟩⟩
 rw [if_pos bS] at H
 have d5 : decide ((wrap64 (t + ((a0a a a1).f2))) ≤ ((a0h (a3q n ((a0a a a1).f1)) q).f1)) = true := decide_eq_true bS
 clear bS
 replace H := bm_ H
 obtain ⟨⟨cC,cD,aI,d0⟩,d1,H⟩ := H
 replace H : (if d0 = true then (if aI ≥ ((a0h (a3q n ((a0a a a1).f1)) q).f1) then (a0u.l1 k3 a1 aI l3 (a3q n ((a0a a a1).f1)) ((a3q n ((a0a a a1).f1)).length : Int) (wrap64 (q + 1)) E n a ((a0a a a1).f0) ((a0a a a1).f1) ((a0a a a1).f2) ((a0a a a1).f3) ((a0a a a1).f4)) else (a0u.l2 k3 a1 aI l3 (a3q n ((a0a a a1).f1)) ((a3q n ((a0a a a1).f1)).length : Int) q E n a ((a0a a a1).f0) ((a0a a a1).f1) ((a0a a a1).f2) ((a0a a a1).f3) ((a0a a a1).f4) ((a0h (a3q n ((a0a a a1).f1)) q).f0) ((a0h (a3q n ((a0a a a1).f1)) q).f1))) else (some (((a0a a a1).f0),t,wrap64 (t + ((a0a a a1).f2)),true))) = some (r1,r2,r3,r4) := H
 have d2 := am_ d1
 clear d1
 by_cases cM : d0 = true
 rotate_left
 ·replace cM := be_ cM
  subst cM
  replace H := qin_ H
  simp only [Option.some.injEq,Prod.mk.injEq] at H
  obtain ⟨rfl,rfl,rfl,rfl⟩ := H
  have fh := af.out
  have fi := G.out
  have fj := ag.out
  have fk := J.out
  have fl := a4.out
  have fm := B.out
  have fn := a5.out
  have fo := D.out
  have fp := aa.out
  have fq := an.out
  obtain ⟨dD,dE,dF,dG,dH⟩ := qz5_ i;obtain ⟨dI,dJ,dK,dL,dM⟩ := qf5_ i
  have fr := aj.out
  have fs := a6.out
  have ft := ak.out
  have fu := a7.out
  have fv := al.out
  have fw := a8.out
  have fx := am.out
  have fy := a9.out
  obtain ⟨dN,dO⟩ := qz2_ p;obtain ⟨dP,dQ⟩ := qf2_ p
  go_wp2_with (first | ((with_reducible refine a0t (N := 15) rfl ?_);refine qev_ 15 #[.int .i64 0, .int .i64 0, .int .i64 0] 42 ?_;intro b3 hg jP hbox hb;have A := am_ (hbox);have cN := qga_ hg;have cO := qga_ hg;replace HB := qbs_ hb;obtain ⟨l,ao⟩ := qnb_ hg c;replace c := qkb_ c hb;obtain ⟨m,ap⟩ := qnb_ hg d;replace d := qkb_ d hb;obtain ⟨u,aq⟩ := qnb_ hg b;replace b := qkb_ b hb;obtain ⟨v,ar⟩ := qnb_ hg j;replace j := qkb_ j hb;obtain ⟨x,au⟩ := qnb_ hg i;replace i := qkb_ i hb;obtain ⟨y,av⟩ := qnb_ hg p;replace p := qkb_ p hb;clear hb hbox hg;have fz := ao.out;have fA := l.out;have fB := ap.out;have fC := m.out;have fD := aq.out;have fE := u.out;have fF := ar.out;have fG := v.out;have fH := au.out;have fI := x.out;have fJ := av.out;have fK := y.out;obtain ⟨dR,dS,dT⟩ := qz3_ A;obtain ⟨dU,dV,dW⟩ := qf3_ A;have fL := ac.out;have fM := ab.out;have fN := ae.out;have fO := ad.out;have fP := a0.out;have fQ := a3.out;obtain ⟨dX,dY,dZ⟩ := qz3_ b;obtain ⟨e0,e1,e2⟩ := qf3_ b) | ((with_reducible refine a0r (f := 42) rfl ?_);refine a2a (some 75) rfl rfl Try.func42 (by kernel_rfl) rfl #[.agg #[.slice (some aF) a.length aE, .map (some r), .map (some s)], .int .i64 a1, .agg #[.int .i64 ((a0a a a1).f0), .int .i64 t, .int .i64 (wrap64 (t + ((a0a a a1).f2)))], .slice A3 l3.length c3] rfl ql_ ?_;(with_reducible refine (a2p.calls k3 _ _ a E n r s gh_a0_2 a1 ((a0a a a1).f0) t (wrap64 (t + ((a0a a a1).f2))) _ _ l3 cC cD aI false _ ?s1 bU.out ?s3 cU.out ?s5 ?s6 ?s7 ?s8 ?s9 d2.out).mono ?_);(case s1 => exact Kd.a2s bh.out qb_);(case s3 => exact Kd.a2s cG.out qb_);(case s5 => exact (by refine qd_ ?_;refine a0e ?_ l.out _;refine qd_ ?_;refine a0e ?_ l.out _;refine qd_ ?_;refine a0e ?_ l.out _;refine qd_ ?_;exact c.out));(case s6 => exact (by refine qd_ ?_;refine a0e ?_ m.out _;refine qd_ ?_;refine a0e ?_ m.out _;refine qd_ ?_;refine a0e ?_ m.out _;refine qd_ ?_;exact d.out));(case s7 => exact bi.out);(case s8 => exact (fun e_ he_ => by obtain ⟨A_,c_,bH,bI,bJ⟩ := bj.out e_ he_;have HRm_ := am_ bJ;exact ⟨A_,c_,bH,bI,by exact Kd.a2s HRm_.out qb_⟩));(case s9 => exact aU.out);rintro e jQ ⟨rfl,hb⟩;refine ⟨_,rfl,?_⟩;replace c := am_ (a2g (g := r) (o := a1i (Value.int .i64) E) (by refine qd_ ?_;refine a0e ?_ l.out _;refine qd_ ?_;refine a0e ?_ l.out _;refine qd_ ?_;refine a0e ?_ l.out _;refine qd_ ?_;exact c.out) hb);replace d := am_ (a2g (g := s) (o := a1i (fun e_ : List (S56) × Value => e_.2) gh_a0_2) (by refine qd_ ?_;refine a0e ?_ m.out _;refine qd_ ?_;refine a0e ?_ m.out _;refine qd_ ?_;refine a0e ?_ m.out _;refine qd_ ?_;exact d.out) hb);replace b := am_ (a2g (g := aV) (o := .cells #[.slice (some aF) a.length aE, .map (some r), .map (some s)] 62 (0,0)) (by refine qdj_ ?_ u;refine qdj_ ?_ u;refine qdj_ ?_ u;refine qd_ ?_;exact b.out) hb);replace j := am_ (a2g (g := aJ) (o := .cells #[.int .i64 Y, .int .i64 W, .int .i64 K] 42 (0,0)) (by refine qdj_ ?_ v;refine qdj_ ?_ v;refine qdj_ ?_ v;refine qd_ ?_;exact j.out) hb);replace i := am_ (a2g (g := aW) (o := .cells #[.int .i64 ((a0a a a1).f0), .int .i64 ((a0a a a1).f1), .int .i64 ((a0a a a1).f2), .slice aG ((a0a a a1).f3).length aH, .slice aM ((a0a a a1).f4).length aN] 51 (0,0)) (by refine qdj_ ?_ x;refine qdj_ ?_ x;refine qdj_ ?_ x;refine qd_ ?_;exact i.out) hb);replace p := am_ (a2g (g := bl) (o := .cells #[.int .i64 ((a0h (a3q n ((a0a a a1).f1)) q).f0), .int .i64 ((a0h (a3q n ((a0a a a1).f1)) q).f1)] 56 (0,0)) (by refine qdj_ ?_ y;refine qdj_ ?_ y;refine qdj_ ?_ y;refine qd_ ?_;exact p.out) hb);replace A := am_ (a2g (g := b3) (o := .cells #[.int .i64 ((a0a a a1).f0), .int .i64 t, .int .i64 (wrap64 (t + ((a0a a a1).f2)))] 42 (0,0)) (by refine qd_ ?_;refine a0g (cs := #[.int .i64 ((a0a a a1).f0), .int .i64 t, .int .i64 0]) ?_ 2 _ rfl;refine qd_ ?_;refine a0g (cs := #[.int .i64 ((a0a a a1).f0), .int .i64 0, .int .i64 0]) ?_ 1 _ rfl;refine qd_ ?_;refine a0g (cs := #[.int .i64 0, .int .i64 0, .int .i64 0]) ?_ 0 _ rfl;refine qd_ ?_;exact A.out) hb);replace HB := qbs_ hb;(try clear hb);(try clear da);(try clear hk);(try clear hi)) | ((with_reducible refine a0t (N := 16) rfl ?_);refine qev_ 16 #[.int .i64 0, .int .i64 0, .int .i64 0] 42 ?_;intro cP hg jR hbox hb;have aL := am_ (hbox);have cQ := qga_ hg;have cR := qga_ hg;replace HB := qbs_ hb;obtain ⟨L,aw⟩ := qnb_ hg c;replace c := qkb_ c hb;obtain ⟨O,ax⟩ := qnb_ hg d;replace d := qkb_ d hb;obtain ⟨P,ay⟩ := qnb_ hg b;replace b := qkb_ b hb;obtain ⟨z,az⟩ := qnb_ hg j;replace j := qkb_ j hb;obtain ⟨T,aA⟩ := qnb_ hg i;replace i := qkb_ i hb;obtain ⟨Z,aB⟩ := qnb_ hg p;replace p := qkb_ p hb;obtain ⟨aC,aD⟩ := qnb_ hg A;replace A := qkb_ A hb;clear hb hbox hg;have fR := aw.out;have fS := L.out;have fT := ax.out;have fU := O.out;have fV := ay.out;have fW := P.out;have fX := az.out;have fY := z.out;have fZ := aA.out;have g0 := T.out;have g1 := aB.out;have g2 := Z.out;have g3 := aD.out;have g4 := aC.out;obtain ⟨e3,e4,e5⟩ := qz3_ aL;obtain ⟨e6,e7,e8⟩ := qf3_ aL;obtain ⟨e9,ea,eb⟩ := qz3_ A;obtain ⟨ec,ed,ee⟩ := qf3_ A;have g5 := bd.out;have g6 := bc.out;have g7 := bf.out;have g8 := be.out;obtain ⟨ef,eg,eh⟩ := qz3_ j;obtain ⟨ei,ej,ek⟩ := qf3_ j))
  refine bodyPost_ret (a5y rfl _ _ aJ 42 #[.int .i64 ((a0a a a1).f0), .int .i64 t, .int .i64 (wrap64 (t + ((a0a a a1).f2)))] (0,0) _ rfl (by refine qd_ ?_;refine a0g (cs := #[.int .i64 ((a0a a a1).f0), .int .i64 t, .int .i64 K]) ?_ 2 _ rfl;refine qd_ ?_;refine a0g (cs := #[.int .i64 ((a0a a a1).f0), .int .i64 W, .int .i64 K]) ?_ 1 _ rfl;refine qd_ ?_;refine a0g (cs := #[.int .i64 Y, .int .i64 W, .int .i64 K]) ?_ 0 _ rfl;refine qdj_ ?_ z;refine qdj_ ?_ z;refine qdj_ ?_ z;refine qd_ ?_;exact j.out) Try.underlying42 rfl (by kernel_rfl)) rfl ?_
  exact ⟨by first | rfl | (simp [a4e,a4f] <;> rfl) | (simp only [← b2];first | rfl | (simp [a4e,a4f] <;> rfl)) | (simp [*,a4e,a4f] <;> rfl),qb_⟩
 subst cM
 replace H := qip_ H
 by_cases bT : aI ≥ ((a0h (a3q n ((a0a a a1).f1)) q).f1)
 ·rw [if_pos bT] at H
  have d6 : decide (((a0h (a3q n ((a0a a a1).f1)) q).f1) ≤ aI) = true := decide_eq_true bT
  clear bT
  have H' := am_ H
  clear H
  have iy := af.out
  have iz := G.out
  have iA := ag.out
  have iB := J.out
  have iC := a4.out
  have iD := B.out
  have iE := a5.out
  have iF := D.out
  have iG := aa.out
  have iH := an.out
  obtain ⟨g9,ga,gb,gc,ge⟩ := qz5_ i;obtain ⟨gf,gg,gh,gi,gj⟩ := qf5_ i
  have iI := aj.out
  have iJ := a6.out
  have iK := ak.out
  have iL := a7.out
  have iM := al.out
  have iN := a8.out
  have iO := am.out
  have iP := a9.out
  obtain ⟨gl,gm⟩ := qz2_ p;obtain ⟨gn,go⟩ := qf2_ p
  go_wp2_with (first | ((with_reducible refine a0t (N := 15) rfl ?_);refine qev_ 15 #[.int .i64 0, .int .i64 0, .int .i64 0] 42 ?_;intro b3 hg jW hbox hb;have A := am_ (hbox);have cN := qga_ hg;have cO := qga_ hg;replace HB := qbs_ hb;obtain ⟨l,ao⟩ := qnb_ hg c;replace c := qkb_ c hb;obtain ⟨m,ap⟩ := qnb_ hg d;replace d := qkb_ d hb;obtain ⟨u,aq⟩ := qnb_ hg b;replace b := qkb_ b hb;obtain ⟨v,ar⟩ := qnb_ hg j;replace j := qkb_ j hb;obtain ⟨x,au⟩ := qnb_ hg i;replace i := qkb_ i hb;obtain ⟨y,av⟩ := qnb_ hg p;replace p := qkb_ p hb;clear hb hbox hg;have iQ := ao.out;have iR := l.out;have iS := ap.out;have iT := m.out;have iU := aq.out;have iV := u.out;have iW := ar.out;have iX := v.out;have iY := au.out;have iZ := x.out;have j5 := av.out;have j6 := y.out;obtain ⟨gp,gq,gr⟩ := qz3_ A;obtain ⟨gs,gt,gu⟩ := qf3_ A;have j7 := ac.out;have j8 := ab.out;have j9 := ae.out;have ja := ad.out;have jb := a0.out;have jc := a3.out;obtain ⟨gv,gw,gx⟩ := qz3_ b;obtain ⟨gy,gz,gA⟩ := qf3_ b) | ((with_reducible refine a0r (f := 42) rfl ?_);refine a2a (some 75) rfl rfl Try.func42 (by kernel_rfl) rfl #[.agg #[.slice (some aF) a.length aE, .map (some r), .map (some s)], .int .i64 a1, .agg #[.int .i64 ((a0a a a1).f0), .int .i64 t, .int .i64 (wrap64 (t + ((a0a a a1).f2)))], .slice A3 l3.length c3] rfl ql_ ?_;(with_reducible refine (a2p.calls k3 _ _ a E n r s gh_a0_2 a1 ((a0a a a1).f0) t (wrap64 (t + ((a0a a a1).f2))) _ _ l3 cC cD aI true _ ?s1 bU.out ?s3 cU.out ?s5 ?s6 ?s7 ?s8 ?s9 d2.out).mono ?_);(case s1 => exact Kd.a2s bh.out qb_);(case s3 => exact Kd.a2s cG.out qb_);(case s5 => exact (by refine qd_ ?_;refine a0e ?_ l.out _;refine qd_ ?_;refine a0e ?_ l.out _;refine qd_ ?_;refine a0e ?_ l.out _;refine qd_ ?_;exact c.out));(case s6 => exact (by refine qd_ ?_;refine a0e ?_ m.out _;refine qd_ ?_;refine a0e ?_ m.out _;refine qd_ ?_;refine a0e ?_ m.out _;refine qd_ ?_;exact d.out));(case s7 => exact bi.out);(case s8 => exact (fun e_ he_ => by obtain ⟨A_,c_,bH,bI,bJ⟩ := bj.out e_ he_;have HRm_ := am_ bJ;exact ⟨A_,c_,bH,bI,by exact Kd.a2s HRm_.out qb_⟩));(case s9 => exact aU.out);rintro e jX ⟨rfl,hb⟩;refine ⟨_,rfl,?_⟩;replace c := am_ (a2g (g := r) (o := a1i (Value.int .i64) E) (by refine qd_ ?_;refine a0e ?_ l.out _;refine qd_ ?_;refine a0e ?_ l.out _;refine qd_ ?_;refine a0e ?_ l.out _;refine qd_ ?_;exact c.out) hb);replace d := am_ (a2g (g := s) (o := a1i (fun e_ : List (S56) × Value => e_.2) gh_a0_2) (by refine qd_ ?_;refine a0e ?_ m.out _;refine qd_ ?_;refine a0e ?_ m.out _;refine qd_ ?_;refine a0e ?_ m.out _;refine qd_ ?_;exact d.out) hb);replace b := am_ (a2g (g := aV) (o := .cells #[.slice (some aF) a.length aE, .map (some r), .map (some s)] 62 (0,0)) (by refine qdj_ ?_ u;refine qdj_ ?_ u;refine qdj_ ?_ u;refine qd_ ?_;exact b.out) hb);replace j := am_ (a2g (g := aJ) (o := .cells #[.int .i64 Y, .int .i64 W, .int .i64 K] 42 (0,0)) (by refine qdj_ ?_ v;refine qdj_ ?_ v;refine qdj_ ?_ v;refine qd_ ?_;exact j.out) hb);replace i := am_ (a2g (g := aW) (o := .cells #[.int .i64 ((a0a a a1).f0), .int .i64 ((a0a a a1).f1), .int .i64 ((a0a a a1).f2), .slice aG ((a0a a a1).f3).length aH, .slice aM ((a0a a a1).f4).length aN] 51 (0,0)) (by refine qdj_ ?_ x;refine qdj_ ?_ x;refine qdj_ ?_ x;refine qd_ ?_;exact i.out) hb);replace p := am_ (a2g (g := bl) (o := .cells #[.int .i64 ((a0h (a3q n ((a0a a a1).f1)) q).f0), .int .i64 ((a0h (a3q n ((a0a a a1).f1)) q).f1)] 56 (0,0)) (by refine qdj_ ?_ y;refine qdj_ ?_ y;refine qdj_ ?_ y;refine qd_ ?_;exact p.out) hb);replace A := am_ (a2g (g := b3) (o := .cells #[.int .i64 ((a0a a a1).f0), .int .i64 t, .int .i64 (wrap64 (t + ((a0a a a1).f2)))] 42 (0,0)) (by refine qd_ ?_;refine a0g (cs := #[.int .i64 ((a0a a a1).f0), .int .i64 t, .int .i64 0]) ?_ 2 _ rfl;refine qd_ ?_;refine a0g (cs := #[.int .i64 ((a0a a a1).f0), .int .i64 0, .int .i64 0]) ?_ 1 _ rfl;refine qd_ ?_;refine a0g (cs := #[.int .i64 0, .int .i64 0, .int .i64 0]) ?_ 0 _ rfl;refine qd_ ?_;exact A.out) hb);replace HB := qbs_ hb;(try clear hb);(try clear da);(try clear hk);(try clear hi)) | ((with_reducible refine a0t (N := 16) rfl ?_);refine qev_ 16 #[.int .i64 0, .int .i64 0, .int .i64 0] 42 ?_;intro cP hg jY hbox hb;have aL := am_ (hbox);have cQ := qga_ hg;have cR := qga_ hg;replace HB := qbs_ hb;obtain ⟨L,aw⟩ := qnb_ hg c;replace c := qkb_ c hb;obtain ⟨O,ax⟩ := qnb_ hg d;replace d := qkb_ d hb;obtain ⟨P,ay⟩ := qnb_ hg b;replace b := qkb_ b hb;obtain ⟨z,az⟩ := qnb_ hg j;replace j := qkb_ j hb;obtain ⟨T,aA⟩ := qnb_ hg i;replace i := qkb_ i hb;obtain ⟨Z,aB⟩ := qnb_ hg p;replace p := qkb_ p hb;obtain ⟨aC,aD⟩ := qnb_ hg A;replace A := qkb_ A hb;clear hb hbox hg;have jd := aw.out;have je := L.out;have jf := ax.out;have jg := O.out;have jh := ay.out;have ji := P.out;have jj := az.out;have jk := z.out;have jl := aA.out;have jm := T.out;have jn := aB.out;have jo := Z.out;have jp := aD.out;have jq := aC.out;obtain ⟨gB,gC,gD⟩ := qz3_ aL;obtain ⟨gE,gF,gG⟩ := qf3_ aL;obtain ⟨gH,gI⟩ := qz2_ p;obtain ⟨gJ,gK⟩ := qf2_ p))
  go_roundg k3
  case measure => have := bg.out;have := bP.out;have := bR.out;omega
  case rel => exact ⟨(aI),(wrap64 (q + 1)),(Y),(W),(K),qs_,qs_,H',⟨by have := bg.out;have := bP.out;have := bR.out;omega⟩,⟨by refine qd_ ?_;refine a0e ?_ L.out _;refine qd_ ?_;refine a0e ?_ L.out _;refine qd_ ?_;refine a0e ?_ L.out _;refine qd_ ?_;exact c.out⟩,⟨by refine qd_ ?_;refine a0e ?_ O.out _;refine qd_ ?_;refine a0e ?_ O.out _;refine qd_ ?_;refine a0e ?_ O.out _;refine qd_ ?_;exact d.out⟩,⟨by refine qdj_ ?_ P;refine qdj_ ?_ P;refine qdj_ ?_ P;refine qd_ ?_;exact b.out⟩,⟨by refine qdj_ ?_ z;refine qdj_ ?_ z;refine qdj_ ?_ z;refine qd_ ?_;exact j.out⟩,⟨by refine qdj_ ?_ T;refine qdj_ ?_ T;refine qdj_ ?_ T;refine qd_ ?_;exact i.out⟩,⟨qb_⟩⟩
 rw [if_neg bT] at H
 have d6 : decide (((a0h (a3q n ((a0a a a1).f1)) q).f1) ≤ aI) = false := decide_eq_false bT
 clear bT
 have H' := am_ H
 clear H
 have jr := af.out
 have js := G.out
 have jt := ag.out
 have ju := J.out
 have jv := a4.out
 have jw := B.out
 have jx := a5.out
 have jy := D.out
 have jz := aa.out
 have jA := an.out
 obtain ⟨gL,gM,gN,gO,gP⟩ := qz5_ i;obtain ⟨gQ,gR,gS,gT,gU⟩ := qf5_ i
 have jB := aj.out
 have jC := a6.out
 have jD := ak.out
 have jE := a7.out
 have jF := al.out
 have jG := a8.out
 have jH := am.out
 have jI := a9.out
 obtain ⟨gV,gW⟩ := qz2_ p;obtain ⟨gX,gY⟩ := qf2_ p
 go_wp2_with (first | ((with_reducible refine a0t (N := 15) rfl ?_);refine qev_ 15 #[.int .i64 0, .int .i64 0, .int .i64 0] 42 ?_;intro b3 hg jZ hbox hb;have A := am_ (hbox);have cN := qga_ hg;have cO := qga_ hg;replace HB := qbs_ hb;obtain ⟨l,ao⟩ := qnb_ hg c;replace c := qkb_ c hb;obtain ⟨m,ap⟩ := qnb_ hg d;replace d := qkb_ d hb;obtain ⟨u,aq⟩ := qnb_ hg b;replace b := qkb_ b hb;obtain ⟨v,ar⟩ := qnb_ hg j;replace j := qkb_ j hb;obtain ⟨x,au⟩ := qnb_ hg i;replace i := qkb_ i hb;obtain ⟨y,av⟩ := qnb_ hg p;replace p := qkb_ p hb;clear hb hbox hg;have gZ := ao.out;have h0 := l.out;have h1 := ap.out;have h2 := m.out;have h3 := aq.out;have h4 := u.out;have h5 := ar.out;have h6 := v.out;have h7 := au.out;have h8 := x.out;have h9 := av.out;have ha := y.out;obtain ⟨el,em,en⟩ := qz3_ A;obtain ⟨eo,ep,eq⟩ := qf3_ A;have hc := ac.out;have hd := ab.out;have he := ae.out;have hf := ad.out;have hh := a0.out;have hj := a3.out;obtain ⟨er,es,et⟩ := qz3_ b;obtain ⟨eu,ev,ew⟩ := qf3_ b) | ((with_reducible refine a0r (f := 42) rfl ?_);refine a2a (some 75) rfl rfl Try.func42 (by kernel_rfl) rfl #[.agg #[.slice (some aF) a.length aE, .map (some r), .map (some s)], .int .i64 a1, .agg #[.int .i64 ((a0a a a1).f0), .int .i64 t, .int .i64 (wrap64 (t + ((a0a a a1).f2)))], .slice A3 l3.length c3] rfl ql_ ?_;(with_reducible refine (a2p.calls k3 _ _ a E n r s gh_a0_2 a1 ((a0a a a1).f0) t (wrap64 (t + ((a0a a a1).f2))) _ _ l3 cC cD aI true _ ?s1 bU.out ?s3 cU.out ?s5 ?s6 ?s7 ?s8 ?s9 d2.out).mono ?_);(case s1 => exact Kd.a2s bh.out qb_);(case s3 => exact Kd.a2s cG.out qb_);(case s5 => exact (by refine qd_ ?_;refine a0e ?_ l.out _;refine qd_ ?_;refine a0e ?_ l.out _;refine qd_ ?_;refine a0e ?_ l.out _;refine qd_ ?_;exact c.out));(case s6 => exact (by refine qd_ ?_;refine a0e ?_ m.out _;refine qd_ ?_;refine a0e ?_ m.out _;refine qd_ ?_;refine a0e ?_ m.out _;refine qd_ ?_;exact d.out));(case s7 => exact bi.out);(case s8 => exact (fun e_ he_ => by obtain ⟨A_,c_,bH,bI,bJ⟩ := bj.out e_ he_;have HRm_ := am_ bJ;exact ⟨A_,c_,bH,bI,by exact Kd.a2s HRm_.out qb_⟩));(case s9 => exact aU.out);rintro e jS ⟨rfl,hb⟩;refine ⟨_,rfl,?_⟩;replace c := am_ (a2g (g := r) (o := a1i (Value.int .i64) E) (by refine qd_ ?_;refine a0e ?_ l.out _;refine qd_ ?_;refine a0e ?_ l.out _;refine qd_ ?_;refine a0e ?_ l.out _;refine qd_ ?_;exact c.out) hb);replace d := am_ (a2g (g := s) (o := a1i (fun e_ : List (S56) × Value => e_.2) gh_a0_2) (by refine qd_ ?_;refine a0e ?_ m.out _;refine qd_ ?_;refine a0e ?_ m.out _;refine qd_ ?_;refine a0e ?_ m.out _;refine qd_ ?_;exact d.out) hb);replace b := am_ (a2g (g := aV) (o := .cells #[.slice (some aF) a.length aE, .map (some r), .map (some s)] 62 (0,0)) (by refine qdj_ ?_ u;refine qdj_ ?_ u;refine qdj_ ?_ u;refine qd_ ?_;exact b.out) hb);replace j := am_ (a2g (g := aJ) (o := .cells #[.int .i64 Y, .int .i64 W, .int .i64 K] 42 (0,0)) (by refine qdj_ ?_ v;refine qdj_ ?_ v;refine qdj_ ?_ v;refine qd_ ?_;exact j.out) hb);replace i := am_ (a2g (g := aW) (o := .cells #[.int .i64 ((a0a a a1).f0), .int .i64 ((a0a a a1).f1), .int .i64 ((a0a a a1).f2), .slice aG ((a0a a a1).f3).length aH, .slice aM ((a0a a a1).f4).length aN] 51 (0,0)) (by refine qdj_ ?_ x;refine qdj_ ?_ x;refine qdj_ ?_ x;refine qd_ ?_;exact i.out) hb);replace p := am_ (a2g (g := bl) (o := .cells #[.int .i64 ((a0h (a3q n ((a0a a a1).f1)) q).f0), .int .i64 ((a0h (a3q n ((a0a a a1).f1)) q).f1)] 56 (0,0)) (by refine qdj_ ?_ y;refine qdj_ ?_ y;refine qdj_ ?_ y;refine qd_ ?_;exact p.out) hb);replace A := am_ (a2g (g := b3) (o := .cells #[.int .i64 ((a0a a a1).f0), .int .i64 t, .int .i64 (wrap64 (t + ((a0a a a1).f2)))] 42 (0,0)) (by refine qd_ ?_;refine a0g (cs := #[.int .i64 ((a0a a a1).f0), .int .i64 t, .int .i64 0]) ?_ 2 _ rfl;refine qd_ ?_;refine a0g (cs := #[.int .i64 ((a0a a a1).f0), .int .i64 0, .int .i64 0]) ?_ 1 _ rfl;refine qd_ ?_;refine a0g (cs := #[.int .i64 0, .int .i64 0, .int .i64 0]) ?_ 0 _ rfl;refine qd_ ?_;exact A.out) hb);replace HB := qbs_ hb;(try clear hb);(try clear da);(try clear hk);(try clear hi)) | ((with_reducible refine a0t (N := 16) rfl ?_);refine qev_ 16 #[.int .i64 0, .int .i64 0, .int .i64 0] 42 ?_;intro cP hg jT hbox hb;have aL := am_ (hbox);have cQ := qga_ hg;have cR := qga_ hg;replace HB := qbs_ hb;obtain ⟨L,aw⟩ := qnb_ hg c;replace c := qkb_ c hb;obtain ⟨O,ax⟩ := qnb_ hg d;replace d := qkb_ d hb;obtain ⟨P,ay⟩ := qnb_ hg b;replace b := qkb_ b hb;obtain ⟨z,az⟩ := qnb_ hg j;replace j := qkb_ j hb;obtain ⟨T,aA⟩ := qnb_ hg i;replace i := qkb_ i hb;obtain ⟨Z,aB⟩ := qnb_ hg p;replace p := qkb_ p hb;obtain ⟨aC,aD⟩ := qnb_ hg A;replace A := qkb_ A hb;clear hb hbox hg;have hl := aw.out;have hm := L.out;have hn := ax.out;have ho := O.out;have hp := ay.out;have hq := P.out;have hr := az.out;have hs := z.out;have ht := aA.out;have hu := T.out;have hv := aB.out;have hw := Z.out;have hy := aD.out;have hz := aC.out;obtain ⟨ex,ey,ez⟩ := qz3_ aL;obtain ⟨eA,eB,eC⟩ := qf3_ aL;obtain ⟨eD,eE⟩ := qz2_ p;obtain ⟨eF,eG⟩ := qf2_ p))
 go_roundg k3
 case measure => have := bg.out;have := bP.out;have := bR.out;omega
 case rel => exact ⟨(aI),(Y),(W),(K),qs_,H',⟨by have := bg.out;have := bP.out;have := bR.out;omega⟩,⟨by refine qd_ ?_;refine a0e ?_ L.out _;refine qd_ ?_;refine a0e ?_ L.out _;refine qd_ ?_;refine a0e ?_ L.out _;refine qd_ ?_;exact c.out⟩,⟨by refine qd_ ?_;refine a0e ?_ O.out _;refine qd_ ?_;refine a0e ?_ O.out _;refine qd_ ?_;refine a0e ?_ O.out _;refine qd_ ?_;exact d.out⟩,⟨by refine qdj_ ?_ P;refine qdj_ ?_ P;refine qdj_ ?_ P;refine qd_ ?_;exact b.out⟩,⟨by refine qdj_ ?_ z;refine qdj_ ?_ z;refine qdj_ ?_ z;refine qd_ ?_;exact j.out⟩,⟨by refine qdj_ ?_ T;refine qdj_ ?_ T;refine qdj_ ?_ T;refine qd_ ?_;exact i.out⟩,⟨by refine qdj_ ?_ Z;refine qdj_ ?_ Z;refine qdj_ ?_ Z;refine qd_ ?_;exact p.out⟩,⟨qb_⟩⟩
end Go.Proofs.Ytheibjkjmkanoaa.Px
