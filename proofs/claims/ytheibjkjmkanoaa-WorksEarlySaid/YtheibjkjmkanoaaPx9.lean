/- Contracts of Go functions, printed. Conditions: as each theorem states. -/
import Derived.Test.YtheibjkjmkanoaaPx0
import Derived.Test.YtheibjkjmkanoaaPx8
namespace Go.Proofs.Ytheibjkjmkanoaa.Px
open Go.Proofs.Ytheibjkjmkanoaa.Given
open Go.RowKit Go.Proofs.YtheibjkjmkanoaaW.PrintWords Go.Proofs.YtheibjkjmkanoaaW.PrintLast Go.Proofs.YtheibjkjmkanoaaW.PrintMore
attribute [local go_sem] a3m a3n a3x a3y a3e a3f a3o a3p
set_option linter.unusedVariables false
set_option linter.unusedSimpArgs false
def a0p.l0 : Nat → List (S42) → Int → Int → List (Int × Int) → List (Int × List (S56)) → Int → Int → Int → List (S51) → Int → Option (Int)
 | 0,_,_,_,_,_,_,_,_,_,_ => none
 | k + 1,x0,x7,x8,u0,u1,u2,u3,u4,u5,u6 => if x8 < x7 then (if 0 ≤ x8 then (if x8 < (x0.length : Int) then ((a1g.f k ((a0b x0 x8).f0) ((a0b x0 x8).f1) ((a0b x0 x8).f2) u2 u3 u4 u5 u0 u1 u6).bind fun a => (if a = true then (some x8) else (a0p.l0 k x0 x7 (wrap64 (x8 + 1)) u0 u1 u2 u3 u4 u5 u6))) else (none)) else (none)) else (some (-1))
def a0p.f (k : Nat) (l0 : List (S42))  (a b c : Int) (d : List (S51)) (e : List (Int × Int)) (g : List (Int × List (S56))) (a4 : Int) : Option (Int) := a0p.l0 k l0 (l0.length : Int) 0 e g a b c d a4
theorem a0p.a1h : ∀ k,(∀ y0 y1 y2 y3 y4 y5 y6 y7 y8 y9,LeO (a0p.l0 k y0 y1 y2 y3 y4 y5 y6 y7 y8 y9) (a0p.l0 (k + 1) y0 y1 y2 y3 y4 y5 y6 y7 y8 y9))
 | 0 => fun _ _ _ _ _ _ _ _ _ _ r h => by simp [a0p.l0] at h
 | k + 1 => by
  have a := a0p.a1h k
  intro y0 y1 y2 y3 y4 y5 y6 y7 y8 y9
  unfold a0p.l0
  with_reducible (repeat' first | apply a | apply a1g.mono | apply LeO.refl | apply LeO.none | apply LeO.ite | refine LeO.bind ?_ (fun _ => ?_))
theorem a0p.mono : ∀ a0 a1 a2 a3 a4 a5 a6 a7 k,LeO (a0p.f k a0 a1 a2 a3 a4 a5 a6 a7) (a0p.f (k + 1) a0 a1 a2 a3 a4 a5 a6 a7) := by
 intro a0 a1 a2 a3 a4 a5 a6 a7 k
 have a := a0p.a1h k
 unfold a0p.f
 with_reducible (repeat' first | apply a | apply a1g.mono | apply LeO.refl | apply LeO.none | apply LeO.ite | refine LeO.bind ?_ (fun _ => ?_))
set_option maxHeartbeats 8000000 in
set_option maxRecDepth 100000 in
theorem a0p.calls (k : Nat) (A0 : Option Addr) (c0 : Nat) (l0 : List (S42))  (J : Nat) (s t u : Int) (K : Nat) (a3 : Option Addr) (a5 : Nat) (m : List (S51)) (v : List (Int × Int)) (M : List (Int × List (S56))) (b c : Nat) (gh_a3_2 : List (Int × (List (S56) × Value))) (L : Nat) (a4 r : Int) (w : World) (ao : Kd.C k42 w A0 l0.length l0) (ap : l0.length ≤ c0) (ah : Kd.C k51 w a3 m.length m) (ai : m.length ≤ a5) (aq : w.heap[J]? = some (.cells #[.int .i64 s, .int .i64 t, .int .i64 u] 42 (0,0))) (ar : w.heap[K]? = some (.cells #[.slice a3 m.length a5, .map (some b), .map (some c)] 62 (0,0))) (au : w.heap[L]? = some (.cells #[.int .i64 a4] 3 (0,0))) (a6 : J ≠ K) (a7 : J ≠ L) (a8 : K ≠ L) (a9 : w.heap[b]? = some (a1i (Value.int .i64) v)) (aa : w.heap[c]? = some (a1i (fun e_ : List (S56) × Value => e_.2) gh_a3_2)) (ab : a5n gh_a3_2 = M) (ac : a5a k56 w gh_a3_2) (q : b ≠ c) (x : b ≠ J) (y : b ≠ K) (z : b ≠ L) (A : c ≠ J) (B : c ≠ K) (D : c ≠ L) (h : a0p.f k l0 s t u m v M a4 = some r) :
  Calls Try.prog 61 #[.slice A0 l0.length c0, .func (.func 62) #[] #[.pointer (some ⟨J,0,none⟩), .pointer (some ⟨K,0,none⟩), .pointer (some ⟨L,0,none⟩)]] w fun e w' => e = .returned (.int .i64 r) ∧ Below w.heap.size w w' := by
 have aL := Try.underlying42
 have av := am_ ao
 have aO := am_ ap
 clear ao ap
 have aj := am_ ah
 have ak := am_ ai
 clear ah ai
 have d := am_ a9
 clear a9
 have g := am_ aa
 clear aa
 have al := am_ ab
 have am := am_ ac
 clear ab ac
 have O := am_ q
 have aw := am_ q.symm
 clear q
 have P := am_ x
 have ax := am_ x.symm
 clear x
 have T := am_ y
 have ay := am_ y.symm
 clear y
 have W := am_ z
 have az := am_ z.symm
 clear z
 have X := am_ A
 have aA := am_ A.symm
 clear A
 have Y := am_ B
 have aB := am_ B.symm
 clear B
 have Z := am_ D
 have aC := am_ D.symm
 clear D
 have i := am_ aq
 clear aq
 have j := am_ ar
 clear ar
 have l := am_ au
 clear au
 have a0 := am_ a6
 have aD := am_ a6.symm
 clear a6
 have a1 := am_ a7
 have aE := am_ a7.symm
 clear a7
 have a2 := am_ a8
 have aF := am_ a8.symm
 clear a8
 have HB := am_ (Below.refl w.heap.size w)
 have H : (a0p.l0 k l0 (l0.length : Int) 0 v M s t u m a4) = some r := h
 clear h
 have H' := am_ H
 clear H
 go_enter Try.func61,Try.ntmps61
 go_wp2
 go_loopg [8] k (fun kq v8 w' => ∃ (a : Int),v8 = .int .i64 a ∧ Aside0 (a0p.l0 kq l0 (l0.length : Int) a v M s t u m a4 = some r) ∧ Aside0 (kq ≤ k) ∧ Aside0 (w'.heap[b]? = some (a1i (Value.int .i64) v)) ∧ Aside0 (w'.heap[c]? = some (a1i (fun e_ : List (S56) × Value => e_.2) gh_a3_2)) ∧ Aside0 (w'.heap[J]? = some (.cells #[.int .i64 s, .int .i64 t, .int .i64 u] 42 (0,0))) ∧ Aside0 (w'.heap[K]? = some (.cells #[(.slice a3 m.length a5), .map (some b), .map (some c)] 62 (0,0))) ∧ Aside0 (w'.heap[L]? = some (.cells #[.int .i64 a4] 3 (0,0))) ∧ Aside0 (Below w.heap.size w w'))
 case atStart => exact ⟨(0),qs_,H',⟨Nat.le_refl _⟩,⟨qk_ d⟩,⟨qk_ g⟩,⟨qk_ i⟩,⟨qk_ j⟩,⟨qk_ l⟩,⟨qb_⟩⟩
 case round =>
 clear H'
 obtain ⟨a,rfl,HA,aG,d,g,i,j,l,HB⟩ := hrel
 cases gk with
 | zero => exact absurd HA.out (by simp [a0p.l0])
 | succ k1 =>
 have H := HA.out
 clear HA
 simp only [a0p.l0] at H
 by_cases c6 : a < (l0.length : Int)
 rotate_left
 ·rw [if_neg c6] at H
  have aI : decide (a < (l0.length : Int)) = false := decide_eq_false c6
  clear c6
  obtain rfl := si_ H
  go_wp2
  go_ret
  exact ⟨qx_,qb_⟩
 rw [if_pos c6] at H
 have aI : decide (a < (l0.length : Int)) = true := decide_eq_true c6
 clear c6
 obtain ⟨aM,H⟩ := qid_ H
 obtain ⟨aN,H⟩ := qid_ H
 replace H := bm_ H
 obtain ⟨aJ,aH,H⟩ := H
 have A9 := am_ aH
 clear aH
 by_cases c10 : aJ = true
 ·subst c10
  replace H := qip_ H
  obtain rfl := si_ H
  have E : 0 ≤ (a : Int) := ot_
  have G : a < (l0.length : Int) := ot_
  obtain ⟨an,ad,n,o,p⟩ := a4h av.out a E G
  cases ad
  replace n := qh_ HB n
  replace o := qh_ HB o
  replace p := qh_ HB p
  replace E := eq_true E
  replace G := eq_true G
  go_wp2_with (first | (go_at_call 62;(with_reducible refine (a1g.calls k1 ((a0b l0 a).f0) ((a0b l0 a).f1) ((a0b l0 a).f2) J s t u K a3 a5 m v M b c gh_a3_2 L a4 true _ ?s1 ak.out ?s3 ?s4 ?s5 ?s6 ?s7 ?s8 ?s9 ?s10 ?s11 ?s12 ?s13 ?s14 ?s15 ?s16 ?s17 ?s18 ?s19 A9.out).mono ?_);(case s1 => exact qc_ aj);(case s3 => exact (qk_ i));(case s4 => exact (qk_ j));(case s5 => exact (qk_ l));(case s6 => exact a0.out);(case s7 => exact a1.out);(case s8 => exact a2.out);(case s9 => exact (qk_ d));(case s10 => exact (qk_ g));(case s11 => exact al.out);(case s12 => exact (fun e_ he_ => by obtain ⟨A_,c_,ae,af,ag⟩ := am.out e_ he_;have HRm_ := am_ ag;exact ⟨A_,c_,ae,af,by repeat (first | exact (Kd.a2s HRm_.out HB.out) | (with_reducible refine Kd.a1t ?_ _) | (with_reducible refine Kd.a1u ?_ _) | (with_reducible refine Kd.a2h ?_))⟩));(case s13 => exact O.out);(case s14 => exact P.out);(case s15 => exact T.out);(case s16 => exact W.out);(case s17 => exact X.out);(case s18 => exact Y.out);(case s19 => exact Z.out);rintro e aP ⟨rfl,hb⟩;replace d := qkb_ d hb;replace g := qkb_ g hb;replace i := qkb_ i hb;replace j := qkb_ j hb;replace l := qkb_ l hb;replace HB := qbs_ hb;(try clear hb);(try clear aK);(try clear hk);(try clear hi)))
  go_ret
  exact ⟨qx_,qb_⟩
 replace c10 := be_ c10
 subst c10
 replace H := qin_ H
 have H' := am_ H
 clear H
 have E : 0 ≤ (a : Int) := ot_
 have G : a < (l0.length : Int) := ot_
 obtain ⟨an,ad,n,o,p⟩ := a4h av.out a E G
 cases ad
 replace n := qh_ HB n
 replace o := qh_ HB o
 replace p := qh_ HB p
 replace E := eq_true E
 replace G := eq_true G
 go_wp2_with (first | (go_at_call 62;(with_reducible refine (a1g.calls k1 ((a0b l0 a).f0) ((a0b l0 a).f1) ((a0b l0 a).f2) J s t u K a3 a5 m v M b c gh_a3_2 L a4 false _ ?s1 ak.out ?s3 ?s4 ?s5 ?s6 ?s7 ?s8 ?s9 ?s10 ?s11 ?s12 ?s13 ?s14 ?s15 ?s16 ?s17 ?s18 ?s19 A9.out).mono ?_);(case s1 => exact qc_ aj);(case s3 => exact (qk_ i));(case s4 => exact (qk_ j));(case s5 => exact (qk_ l));(case s6 => exact a0.out);(case s7 => exact a1.out);(case s8 => exact a2.out);(case s9 => exact (qk_ d));(case s10 => exact (qk_ g));(case s11 => exact al.out);(case s12 => exact (fun e_ he_ => by obtain ⟨A_,c_,ae,af,ag⟩ := am.out e_ he_;have HRm_ := am_ ag;exact ⟨A_,c_,ae,af,by repeat (first | exact (Kd.a2s HRm_.out HB.out) | (with_reducible refine Kd.a1t ?_ _) | (with_reducible refine Kd.a1u ?_ _) | (with_reducible refine Kd.a2h ?_))⟩));(case s13 => exact O.out);(case s14 => exact P.out);(case s15 => exact T.out);(case s16 => exact W.out);(case s17 => exact X.out);(case s18 => exact Y.out);(case s19 => exact Z.out);rintro e aQ ⟨rfl,hb⟩;replace d := qkb_ d hb;replace g := qkb_ g hb;replace i := qkb_ i hb;replace j := qkb_ j hb;replace l := qkb_ l hb;replace HB := qbs_ hb;(try clear hb);(try clear aK);(try clear hk);(try clear hi)))
 go_roundg k1
 case measure => have := aG.out;omega
 case rel => exact ⟨(wrap64 (a + 1)),qs_,H',⟨by have := aG.out;omega⟩,⟨qk_ d⟩,⟨qk_ g⟩,⟨qk_ i⟩,⟨qk_ j⟩,⟨qk_ l⟩,⟨qb_⟩⟩
def a2p.f (k : Nat) (b : List (S51)) (c : List (Int × Int)) (d : List (Int × List (S56))) (a1 e g h : Int) (l3 : List (S42)) : Option (Int × Int × Int × Bool) := (a0p.f k l3 e g h b c d a1).bind fun a => (if a < 0 then (some (0,0,0,false)) else (if 0 ≤ a then (if a < (l3.length : Int) then (some ((a0b l3 a).f0,(a0b l3 a).f1,(a0b l3 a).f2,true)) else (none)) else (none)))
theorem a2p.mono : ∀ a0 a1 a2 a3 a4 a5 a6 a7 k,LeO (a2p.f k a0 a1 a2 a3 a4 a5 a6 a7) (a2p.f (k + 1) a0 a1 a2 a3 a4 a5 a6 a7) := by
 intro a0 a1 a2 a3 a4 a5 a6 a7 k
 unfold a2p.f
 with_reducible (repeat' first | apply a0p.mono | apply LeO.refl | apply LeO.none | apply LeO.ite | refine LeO.bind ?_ (fun _ => ?_))
set_option maxHeartbeats 8000000 in
set_option maxRecDepth 100000 in
theorem a2p.calls (k : Nat) (Z : Option Addr) (a0 : Nat) (n : List (S51)) (a3 : List (Int × Int)) (a4 : List (Int × List (S56))) (l m : Nat) (gh_a0_2 : List (Int × (List (S56) × Value))) (a1 O P T : Int) (A3 : Option Addr) (c3 : Nat) (l3 : List (S42)) (r1 r2 r3 : Int) (r4 : Bool) (w : World) (ar : Kd.C k51 w Z n.length n) (au : n.length ≤ a0) (aI : Kd.C k42 w A3 l3.length l3) (aJ : l3.length ≤ c3) (a9 : w.heap[l]? = some (a1i (Value.int .i64) a3)) (aa : w.heap[m]? = some (a1i (fun e_ : List (S56) × Value => e_.2) gh_a0_2)) (ab : a5n gh_a0_2 = a4) (ac : a5a k56 w gh_a0_2) (o : l ≠ m) (h : a2p.f k n a3 a4 a1 O P T l3 = some (r1,r2,r3,r4)) :
  Calls Try.prog 42 #[.agg #[.slice Z n.length a0, .map (some l), .map (some m)], .int .i64 a1, .agg #[.int .i64 O, .int .i64 P, .int .i64 T], .slice A3 l3.length c3] w fun e w' => e = .returned (.tuple #[.agg #[.int .i64 r1, .int .i64 r2, .int .i64 r3], .bool r4]) ∧ Below w.heap.size w w' := by
 have bp := Try.underlying62
 have bq := Try.underlying42
 have av := am_ ar
 have aw := am_ au
 clear ar au
 have az := am_ aI
 have aK := am_ aJ
 clear aI aJ
 have a := am_ a9
 clear a9
 have b := am_ aa
 clear aa
 have ax := am_ ab
 have ay := am_ ac
 clear ab ac
 have a2 := am_ o
 have aL := am_ o.symm
 clear o
 have HB := am_ (Below.refl w.heap.size w)
 have H : ((a0p.f k l3 O P T n a3 a4 a1).bind fun g => (if g < 0 then (some (0,0,0,false)) else (if 0 ≤ g then (if g < (l3.length : Int) then (some ((a0b l3 g).f0,(a0b l3 g).f1,(a0b l3 g).f2,true)) else (none)) else (none)))) = some (r1,r2,r3,r4) := h
 clear h
 replace H := bm_ H
 obtain ⟨g,aM,H⟩ := H
 have A5 := am_ aM
 clear aM
 by_cases c6 : g < 0
 ·rw [if_pos c6] at H
  have aN : decide (g < 0) = true := decide_eq_true c6
  clear c6
  simp only [Option.some.injEq,Prod.mk.injEq] at H
  obtain ⟨rfl,rfl,rfl,rfl⟩ := H
  go_enter Try.func42,Try.ntmps42
  go_wp2_with (first | ((with_reducible refine a0t (N := 4) rfl ?_);refine qev_ 4 #[.slice Z n.length a0, .map (some l), .map (some m)] 62 ?_;intro W hg w7 hbox hb;have c := am_ (hbox);have aA := qga_ hg;have aB := qga_ hg;replace HB := qbs_ hb;obtain ⟨p,ad⟩ := qnb_ hg a;replace a := qkb_ a hb;obtain ⟨q,ae⟩ := qnb_ hg b;replace b := qkb_ b hb;clear hb hbox hg) | ((with_reducible refine a0t (N := 5) rfl ?_);refine qev_ 5 #[.int .i64 a1] 3 ?_;intro X hg w8 hbox hb;have d := am_ (hbox);have aC := qga_ hg;have aD := qga_ hg;replace HB := qbs_ hb;obtain ⟨r,af⟩ := qnb_ hg a;replace a := qkb_ a hb;obtain ⟨s,ag⟩ := qnb_ hg b;replace b := qkb_ b hb;obtain ⟨t,ah⟩ := qnb_ hg c;replace c := qkb_ c hb;clear hb hbox hg) | ((with_reducible refine a0t (N := 6) rfl ?_);refine qev_ 6 #[.int .i64 O, .int .i64 P, .int .i64 T] 42 ?_;intro Y hg w9 hbox hb;have i := am_ (hbox);have aE := qga_ hg;have aF := qga_ hg;replace HB := qbs_ hb;obtain ⟨u,ai⟩ := qnb_ hg a;replace a := qkb_ a hb;obtain ⟨v,aj⟩ := qnb_ hg b;replace b := qkb_ b hb;obtain ⟨ak,x⟩ := qnb_ hg c;replace c := qkb_ c hb;obtain ⟨al,y⟩ := qnb_ hg d;replace d := qkb_ d hb;clear hb hbox hg) | ((with_reducible refine a0t (N := 8) rfl ?_);refine qev_ 8 #[.int .i64 0, .int .i64 0, .int .i64 0] 42 ?_;intro a8 hg br hbox hb;have j := am_ (hbox);have aG := qga_ hg;have aH := qga_ hg;replace HB := qbs_ hb;obtain ⟨z,A⟩ := qnb_ hg a;replace a := qkb_ a hb;obtain ⟨B,D⟩ := qnb_ hg b;replace b := qkb_ b hb;obtain ⟨E,G⟩ := qnb_ hg c;replace c := qkb_ c hb;obtain ⟨J,K⟩ := qnb_ hg d;replace d := qkb_ d hb;obtain ⟨L,M⟩ := qnb_ hg i;replace i := qkb_ i hb;clear hb hbox hg) | ((with_reducible refine a0r (f := 61) rfl ?_);refine a2a (some 13) rfl rfl Try.func61 (by kernel_rfl) rfl #[.slice A3 l3.length c3, .func (.func 62) #[] #[.pointer (some ⟨Y,0,none⟩), .pointer (some ⟨W,0,none⟩), .pointer (some ⟨X,0,none⟩)]] rfl ql_ ?_;(with_reducible refine (a0p.calls k _ _ l3  Y O P T W Z a0 n a3 a4 l m gh_a0_2 X a1 g _ ?s1 aK.out ?s3 aw.out ?s5 ?s6 ?s7 ?s8 ?s9 ?s10 ?s11 ?s12 ?s13 ?s14 ?s15 ?s16 ?s17 ?s18 ?s19 ?s20 ?s21 A5.out).mono ?_);(case s1 => exact qc_ az);(case s3 => exact qc_ av);(case s5 => exact (qk_ i));(case s6 => exact (qk_ c));(case s7 => exact (qk_ d));(case s8 => exact x.out);(case s9 => exact y.out);(case s10 => exact t.out);(case s11 => exact (qk_ a));(case s12 => exact (qk_ b));(case s13 => exact ax.out);(case s14 => exact (fun e_ he_ => by obtain ⟨A_,c_,am,an,ao⟩ := ay.out e_ he_;have HRm_ := am_ ao;exact ⟨A_,c_,am,an,by repeat (first | exact (Kd.a2s HRm_.out HB.out) | (with_reducible refine Kd.a1t ?_ _) | (with_reducible refine Kd.a1u ?_ _) | (with_reducible refine Kd.a2h ?_))⟩));(case s15 => exact a2.out);(case s16 => exact u.out);(case s17 => exact p.out);(case s18 => exact r.out);(case s19 => exact v.out);(case s20 => exact q.out);(case s21 => exact s.out);rintro e bs ⟨rfl,hb⟩;refine ⟨_,rfl,?_⟩;replace a := qkb_ a hb;replace b := qkb_ b hb;replace c := qkb_ c hb;replace d := qkb_ d hb;replace i := qkb_ i hb;replace j := qkb_ j hb;replace HB := qbs_ hb;(try clear hb);(try clear aP);(try clear hk);(try clear hi);have b2 := A.out;have b3 := z.out;have b4 := D.out;have b5 := B.out;have b6 := G.out;have b7 := E.out;have b8 := K.out;have b9 := J.out;have ba := M.out;have bb := L.out;obtain ⟨aQ,aR,aS⟩ := qz3_ j;obtain ⟨aT,aU,aV⟩ := qf3_ j))
  refine bodyPost_ret (a5y rfl _ _ a8 42 #[.int .i64 0, .int .i64 0, .int .i64 0] (0,0) _ rfl (by refine qd_ ?_;refine a0g (cs := #[.int .i64 0, .int .i64 0, .int .i64 0]) ?_ 2 _ rfl;refine qd_ ?_;refine a0g (cs := #[.int .i64 0, .int .i64 0, .int .i64 0]) ?_ 1 _ rfl;refine qd_ ?_;refine a0g (cs := #[.int .i64 0, .int .i64 0, .int .i64 0]) ?_ 0 _ rfl;refine qd_ ?_;exact j.out) Try.underlying42 rfl (by kernel_rfl)) rfl ?_
  exact ⟨qx_,qb_⟩
 rw [if_neg c6] at H
 have aN : decide (g < 0) = false := decide_eq_false c6
 clear c6
 obtain ⟨bc,H⟩ := qid_ H
 obtain ⟨bd,H⟩ := qid_ H
 simp only [Option.some.injEq,Prod.mk.injEq] at H
 obtain ⟨rfl,rfl,rfl,rfl⟩ := H
 go_enter Try.func42,Try.ntmps42
 go_wp2_with (first | ((with_reducible refine a0t (N := 4) rfl ?_);refine qev_ 4 #[.slice Z n.length a0, .map (some l), .map (some m)] 62 ?_;intro W hg bt hbox hb;have c := am_ (hbox);have aA := qga_ hg;have aB := qga_ hg;replace HB := qbs_ hb;obtain ⟨p,ad⟩ := qnb_ hg a;replace a := qkb_ a hb;obtain ⟨q,ae⟩ := qnb_ hg b;replace b := qkb_ b hb;clear hb hbox hg) | ((with_reducible refine a0t (N := 5) rfl ?_);refine qev_ 5 #[.int .i64 a1] 3 ?_;intro X hg bu hbox hb;have d := am_ (hbox);have aC := qga_ hg;have aD := qga_ hg;replace HB := qbs_ hb;obtain ⟨r,af⟩ := qnb_ hg a;replace a := qkb_ a hb;obtain ⟨s,ag⟩ := qnb_ hg b;replace b := qkb_ b hb;obtain ⟨t,ah⟩ := qnb_ hg c;replace c := qkb_ c hb;clear hb hbox hg) | ((with_reducible refine a0t (N := 6) rfl ?_);refine qev_ 6 #[.int .i64 O, .int .i64 P, .int .i64 T] 42 ?_;intro Y hg bv hbox hb;have i := am_ (hbox);have aE := qga_ hg;have aF := qga_ hg;replace HB := qbs_ hb;obtain ⟨u,ai⟩ := qnb_ hg a;replace a := qkb_ a hb;obtain ⟨v,aj⟩ := qnb_ hg b;replace b := qkb_ b hb;obtain ⟨ak,x⟩ := qnb_ hg c;replace c := qkb_ c hb;obtain ⟨al,y⟩ := qnb_ hg d;replace d := qkb_ d hb;clear hb hbox hg) | ((with_reducible refine a0t (N := 8) rfl ?_);refine qev_ 8 #[.int .i64 0, .int .i64 0, .int .i64 0] 42 ?_;intro a8 hg bw hbox hb;have j := am_ (hbox);have aG := qga_ hg;have aH := qga_ hg;replace HB := qbs_ hb;obtain ⟨z,A⟩ := qnb_ hg a;replace a := qkb_ a hb;obtain ⟨B,D⟩ := qnb_ hg b;replace b := qkb_ b hb;obtain ⟨E,G⟩ := qnb_ hg c;replace c := qkb_ c hb;obtain ⟨J,K⟩ := qnb_ hg d;replace d := qkb_ d hb;obtain ⟨L,M⟩ := qnb_ hg i;replace i := qkb_ i hb;clear hb hbox hg) | ((with_reducible refine a0r (f := 61) rfl ?_);refine a2a (some 13) rfl rfl Try.func61 (by kernel_rfl) rfl #[.slice A3 l3.length c3, .func (.func 62) #[] #[.pointer (some ⟨Y,0,none⟩), .pointer (some ⟨W,0,none⟩), .pointer (some ⟨X,0,none⟩)]] rfl ql_ ?_;(with_reducible refine (a0p.calls k _ _ l3  Y O P T W Z a0 n a3 a4 l m gh_a0_2 X a1 g _ ?s1 aK.out ?s3 aw.out ?s5 ?s6 ?s7 ?s8 ?s9 ?s10 ?s11 ?s12 ?s13 ?s14 ?s15 ?s16 ?s17 ?s18 ?s19 ?s20 ?s21 A5.out).mono ?_);(case s1 => exact qc_ az);(case s3 => exact qc_ av);(case s5 => exact (qk_ i));(case s6 => exact (qk_ c));(case s7 => exact (qk_ d));(case s8 => exact x.out);(case s9 => exact y.out);(case s10 => exact t.out);(case s11 => exact (qk_ a));(case s12 => exact (qk_ b));(case s13 => exact ax.out);(case s14 => exact (fun e_ he_ => by obtain ⟨A_,c_,am,an,ao⟩ := ay.out e_ he_;have HRm_ := am_ ao;exact ⟨A_,c_,am,an,by repeat (first | exact (Kd.a2s HRm_.out HB.out) | (with_reducible refine Kd.a1t ?_ _) | (with_reducible refine Kd.a1u ?_ _) | (with_reducible refine Kd.a2h ?_))⟩));(case s15 => exact a2.out);(case s16 => exact u.out);(case s17 => exact p.out);(case s18 => exact r.out);(case s19 => exact v.out);(case s20 => exact q.out);(case s21 => exact s.out);rintro e bx ⟨rfl,hb⟩;refine ⟨_,rfl,?_⟩;replace a := qkb_ a hb;replace b := qkb_ b hb;replace c := qkb_ c hb;replace d := qkb_ d hb;replace i := qkb_ i hb;replace j := qkb_ j hb;replace HB := qbs_ hb;(try clear hb);(try clear aP);(try clear hk);(try clear hi);have ap : 0 ≤ (g : Int) := ot_;have aq : g < (l3.length : Int) := ot_;obtain ⟨be,aO,a5,a6,a7⟩ := a4h az.out g ap aq;cases aO;replace a5 := qh_ HB a5;replace a6 := qh_ HB a6;replace a7 := qh_ HB a7;replace ap := eq_true ap;replace aq := eq_true aq;have bf := A.out;have bg := z.out;have bh := D.out;have bi := B.out;have bj := G.out;have bk := E.out;have bl := K.out;have bm := J.out;have bn := M.out;have bo := L.out;obtain ⟨aW,aX,aY⟩ := qz3_ j;obtain ⟨aZ,b0,b1⟩ := qf3_ j))
 refine bodyPost_ret (a5y rfl _ _ a8 42 #[.int .i64 ((a0b l3 g).f0), .int .i64 ((a0b l3 g).f1), .int .i64 ((a0b l3 g).f2)] (0,0) _ rfl (by refine qd_ ?_;refine a0g (cs := #[.int .i64 ((a0b l3 g).f0), .int .i64 ((a0b l3 g).f1), .int .i64 0]) ?_ 2 _ rfl;refine qd_ ?_;refine a0g (cs := #[.int .i64 ((a0b l3 g).f0), .int .i64 0, .int .i64 0]) ?_ 1 _ rfl;refine qd_ ?_;refine a0g (cs := #[.int .i64 0, .int .i64 0, .int .i64 0]) ?_ 0 _ rfl;refine qd_ ?_;exact j.out) Try.underlying42 rfl (by kernel_rfl)) rfl ?_
 exact ⟨qx_,qb_⟩
end Go.Proofs.Ytheibjkjmkanoaa.Px
