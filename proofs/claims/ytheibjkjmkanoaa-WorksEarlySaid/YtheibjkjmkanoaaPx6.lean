/- Contracts of Go functions, printed. Conditions: as each theorem states. -/
import Derived.Test.YtheibjkjmkanoaaPx0
import Derived.Test.YtheibjkjmkanoaaPx4
import Derived.Test.YtheibjkjmkanoaaPx5
import Derived.Test.YtheibjkjmkanoaaGSite
namespace Go.Proofs.Ytheibjkjmkanoaa.Px
open Go.Proofs.Ytheibjkjmkanoaa.Given
open Go.RowKit Go.Proofs.YtheibjkjmkanoaaW.PrintWords Go.Proofs.YtheibjkjmkanoaaW.PrintLast Go.Proofs.YtheibjkjmkanoaaW.PrintMore
attribute [local go_sem] a3m a3n a3x a3y a3e a3f a3o a3p
set_option linter.unusedVariables false
set_option linter.unusedSimpArgs false
mutual
def a0q.l0 : Nat → List (S51) → List (S58) → Int → List (S58) → Int → Int → List (Int × Int) → List (Int × Int) → List (S51) → Option (Bool × List (Int × Int) × List (Int × Int))
 | 0,_,_,_,_,_,_,_,_,_ => none
 | k + 1,x0,x1,x7,b,c,a,u0,u1,u2 => if a < c then (if 0 ≤ a then (if a < (b.length : Int) then (if ((a1l b a).f0) ≤ x7 then (a0q.j1 k x0 x1 b c a true u0 u1 u2 ((a1l b a).f0) ((a1l b a).f1)) else (if ((a1l b a).f0) > 1000 then (a0q.j1 k x0 x1 b c a true u0 u1 u2 ((a1l b a).f0) ((a1l b a).f1)) else ((a1m.f k ((a1l b a).f1)).bind fun d => (a0q.j1 k x0 x1 b c a (!d) u0 u1 u2 ((a1l b a).f0) ((a1l b a).f1))))) else (none)) else (none)) else (a0q.l1 k x0 x1 0 x0 (x0.length : Int) 0 u0 u1 u2)
def a0q.j1 : Nat → List (S51) → List (S58) → List (S58) → Int → Int → Bool → List (Int × Int) → List (Int × Int) → List (S51) → Int → List (S56) → Option (Bool × List (Int × Int) × List (Int × Int))
 | 0,_,_,_,_,_,_,_,_,_,_,_ => none
 | k + 1,x0,x1,b,c,a,d,u0,u1,u2,u3,u4 => if d = true then (some (false,([] : List (Int × Int)),([] : List (Int × Int)))) else (a0q.l0 k x0 x1 u3 b c (wrap64 (a + 1)) u0 (mput u1 u3 a) u2)
def a0q.l1 : Nat → List (S51) → List (S58) → Int → List (S51) → Int → Int → List (Int × Int) → List (Int × Int) → List (S51) → Option (Bool × List (Int × Int) × List (Int × Int))
 | 0,_,_,_,_,_,_,_,_,_ => none
 | k + 1,x0,x1,x7,b,c,a,u0,u1,u2 => if a < c then (if 0 ≤ a then (if a < (b.length : Int) then (if ((a0a b a).f0) ≤ x7 then (a0q.j3 k x0 x1 a b c a true u0 u1 u2 ((a0a b a).f0) ((a0a b a).f1) ((a0a b a).f2) ((a0a b a).f3) ((a0a b a).f4)) else (if ((a0a b a).f0) > 1000 then (a0q.j3 k x0 x1 a b c a true u0 u1 u2 ((a0a b a).f0) ((a0a b a).f1) ((a0a b a).f2) ((a0a b a).f3) ((a0a b a).f4)) else (if ((a0a b a).f2) < 1 then (a0q.j3 k x0 x1 a b c a true u0 u1 u2 ((a0a b a).f0) ((a0a b a).f1) ((a0a b a).f2) ((a0a b a).f3) ((a0a b a).f4)) else (if ((a0a b a).f2) > 100 then (a0q.j3 k x0 x1 a b c a true u0 u1 u2 ((a0a b a).f0) ((a0a b a).f1) ((a0a b a).f2) ((a0a b a).f3) ((a0a b a).f4)) else (if (((a0a b a).f4).length : Int) > 8 then (a0q.j3 k x0 x1 a b c a true u0 u1 u2 ((a0a b a).f0) ((a0a b a).f1) ((a0a b a).f2) ((a0a b a).f3) ((a0a b a).f4)) else ((a0x.f k ((a0a b a).f4) 1 64).bind fun d => (if d = true then ((a0x.f k ((a0a b a).f3) 1 1000).bind fun e => (a0q.j3 k x0 x1 a b c a (!e) u0 u1 u2 ((a0a b a).f0) ((a0a b a).f1) ((a0a b a).f2) ((a0a b a).f3) ((a0a b a).f4))) else (a0q.j3 k x0 x1 a b c a true u0 u1 u2 ((a0a b a).f0) ((a0a b a).f1) ((a0a b a).f2) ((a0a b a).f3) ((a0a b a).f4))))))))) else (none)) else (none)) else (if (x1.length : Int) ≤ 20 then (some (decide ((x0.length : Int) ≤ 60),u0,u1)) else (some (false,u0,u1)))
def a0q.j3 : Nat → List (S51) → List (S58) → Int → List (S51) → Int → Int → Bool → List (Int × Int) → List (Int × Int) → List (S51) → Int → Int → Int → List Int → List Int → Option (Bool × List (Int × Int) × List (Int × Int))
 | 0,_,_,_,_,_,_,_,_,_,_,_,_,_,_,_ => none
 | k + 1,x0,x1,b,c,d,e,g,u0,u1,u2,u5,u6,u7,u8,u9 => if g = true then (some (false,([] : List (Int × Int)),([] : List (Int × Int)))) else (if mhas u1 u6 = true then ((a1w.f k u8 u2 u0 (a4s x1 u1)).bind fun a => (if a = true then (some (false,([] : List (Int × Int)),([] : List (Int × Int)))) else (a0q.l1 k x0 x1 u5 c d (wrap64 (e + 1)) (mput u0 u5 b) u1 u2))) else (some (false,([] : List (Int × Int)),([] : List (Int × Int)))))
end
def a0q.f (k : Nat) (l0 : List (S51)) (l1 : List (S58)) : Option (Bool × List (Int × Int) × List (Int × Int)) := a0q.l0 k l0 l1 0 l1 (l1.length : Int) 0 ([] : List (Int × Int)) ([] : List (Int × Int)) l0
theorem a0q.a1h : ∀ k,(∀ y0 y1 y2 y3 y4 y5 y6 y7 y8,LeO (a0q.l0 k y0 y1 y2 y3 y4 y5 y6 y7 y8) (a0q.l0 (k + 1) y0 y1 y2 y3 y4 y5 y6 y7 y8)) ∧ (∀ y0 y1 y2 y3 y4 y5 y6 y7 y8 y9 a,LeO (a0q.j1 k y0 y1 y2 y3 y4 y5 y6 y7 y8 y9 a) (a0q.j1 (k + 1) y0 y1 y2 y3 y4 y5 y6 y7 y8 y9 a)) ∧ (∀ y0 y1 y2 y3 y4 y5 y6 y7 y8,LeO (a0q.l1 k y0 y1 y2 y3 y4 y5 y6 y7 y8) (a0q.l1 (k + 1) y0 y1 y2 y3 y4 y5 y6 y7 y8)) ∧ (∀ y0 y1 y2 y3 y4 y5 y6 y7 y8 y9 a b c d e,LeO (a0q.j3 k y0 y1 y2 y3 y4 y5 y6 y7 y8 y9 a b c d e) (a0q.j3 (k + 1) y0 y1 y2 y3 y4 y5 y6 y7 y8 y9 a b c d e))
 | 0 => ⟨fun _ _ _ _ _ _ _ _ _ r h => by simp [a0q.l0] at h,fun _ _ _ _ _ _ _ _ _ _ _ r h => by simp [a0q.j1] at h,fun _ _ _ _ _ _ _ _ _ r h => by simp [a0q.l1] at h,fun _ _ _ _ _ _ _ _ _ _ _ _ _ _ _ r h => by simp [a0q.j3] at h⟩
 | k + 1 => by
  obtain ⟨g,i,j,l⟩ := a0q.a1h k
  refine ⟨?_,?_,?_,?_⟩ <;> intros <;> (first | unfold a0q.l0 | unfold a0q.j1 | unfold a0q.l1 | unfold a0q.j3) <;> with_reducible (repeat' first | apply g | apply i | apply j | apply l | apply a1w.mono | apply a1m.mono | apply a0x.mono | apply LeO.refl | apply LeO.none | apply LeO.ite | refine LeO.bind ?_ (fun _ => ?_))
theorem a0q.mono : ∀ a0 a1 k,LeO (a0q.f k a0 a1) (a0q.f (k + 1) a0 a1) := by
 intro a0 a1 k
 obtain ⟨a,b,c,d⟩ := a0q.a1h k
 unfold a0q.f
 with_reducible (repeat' first | apply a | apply b | apply c | apply d | apply a1w.mono | apply a1m.mono | apply a0x.mono | apply LeO.refl | apply LeO.none | apply LeO.ite | refine LeO.bind ?_ (fun _ => ?_))
def a0q.T8 : Bool × List (List Nat × List Nat) := (true,[([],[]),([0],[0]),([],[]),([2],[2]),([],[]),([4],[4]),([],[]),([6],[6]),([1,3,5,0,1,2,3,4,5],[1,3,5]),([7,8,0,1,2,3,4,5,6,7,8],[7])])
def a0q.B8 : List Nat := [0,1,0,4,0,16,0,64,63,511]
theorem a0q.tab8 : rtab .any (opsOf Try.f30 8) = a0q.T8 := by kernel_rfl
theorem a0q.b3x : a5i a0q.T8.2 a0q.B8 = true := by kernel_rfl
def a0q.T21 : Bool × List (List Nat × List Nat) := (true,[([],[]),([0],[0]),([],[]),([2],[2]),([],[]),([],[]),([5],[5]),([1,3,4,0,1,2,3,4],[1,3,4]),([6,7,0,1,2,3,4,5,6,7],[6])])
def a0q.B21 : List Nat := [0,1,0,4,0,0,32,31,255]
theorem a0q.c2j : rtab .any (opsOf Try.f30 21) = a0q.T21 := by kernel_rfl
theorem a0q.c1s : a5i a0q.T21.2 a0q.B21 = true := by kernel_rfl
set_option maxHeartbeats 8000000 in
set_option maxRecDepth 100000 in
theorem a0q.calls (k : Nat) (A0 : Option Addr) (c0 : Nat) (l0 : List (S51)) (A1 : Option Addr) (c1 : Nat) (l1 : List (S58)) (r1 : Bool) (r2 : List (Int × Int)) (r3 : List (Int × Int)) (w : World) (dG : Kd.C k51 w A0 l0.length l0) (dH : l0.length ≤ c0) (dI : Kd.C k58 w A1 l1.length l1) (dJ : l1.length ≤ c1) (V_ : Int → Value) (hV_ : ∀ I,V_ I = trV w A1 l1 I) (h : a0q.f k l0 l1 = some (r1,r2,r3)) :
  Calls Try.prog 30 #[.slice A0 l0.length c0, .slice A1 l1.length c1] w (b8x V_ (.slice A0 l0.length c0) r1 r2 r3 w) := by
 have iQ := Try.underlying62
 have iR := Try.underlying58
 have iS := Try.underlying51
 have ch := am_ dG
 have dK := am_ dH
 clear dG dH
 have bM := am_ dI
 have j6 := am_ dJ
 clear dI dJ
 have HVV := am_ hV_
 clear hV_
 have HB := am_ (Below.refl w.heap.size w)
 have H : (a0q.l0 k l0 l1 0 l1 (l1.length : Int) 0 ([] : List (Int × Int)) ([] : List (Int × Int)) l0) = some (r1,r2,r3) := h
 clear h
 have H' := am_ H
 clear H
 go_enter Try.func30,Try.ntmps30
 go_wp2_with (first | ((with_reducible refine a0t (N := 4) rfl ?_);(try (refine a3r (by rfl) ?_;dsimp only));refine qev_ 4 #[.slice none 0 0, .map none, .map none] 62 ?_;intro a4 hg w3 hbox hb;have l := am_ (hbox);have gM := qga_ hg;have gN := qga_ hg;replace HB := qbs_ hb;clear hb hbox hg) | ((with_reducible refine a0t (N := 15) rfl ?_);(try (refine a3r (by rfl) ?_;dsimp only));refine b3k (Value.int .i64) ?hg (N := 15) ?hd (T := 59) ?ho ?_;(case hg => rfl);(case hd => rfl);(case ho => rfl);intro u hg w4 hbox hb;have p := am_ (hbox);have gO := qga_ hg;have bo := qga_ hg;replace HB := qbs_ hb;obtain ⟨a5,z⟩ := qnb_ hg l;replace l := qkb_ l hb;clear hb hbox hg) | ((with_reducible refine a0t (N := 16) rfl ?_);(try (refine a3r (by rfl) ?_;dsimp only));refine b3k (V_) ?hg (N := 16) ?hd (T := 60) ?ho ?_;(case hg => rfl);(case hd => rfl);(case ho => rfl);intro v hg w5 hbox hb;have q := am_ (hbox);have gP := qga_ hg;have bp := qga_ hg;replace HB := qbs_ hb;obtain ⟨a6,A⟩ := qnb_ hg l;replace l := qkb_ l hb;obtain ⟨a9,bw⟩ := qnb_ hg p;replace p := qkb_ p hb;clear hb hbox hg) | ((with_reducible refine a0t (N := 6) rfl ?_);(try (refine a3r (by rfl) ?_;dsimp only));refine qev_ 6 #[.slice none 0 0, .map none, .map none] 62 ?_;intro X hg w6 hbox hb;have m := am_ (hbox);have gQ := qga_ hg;have gR := qga_ hg;replace HB := qbs_ hb;obtain ⟨E,a3⟩ := qnb_ hg l;replace l := qkb_ l hb;obtain ⟨G,a7⟩ := qnb_ hg p;replace p := qkb_ p hb;obtain ⟨J,a8⟩ := qnb_ hg q;replace q := qkb_ q hb;clear hb hbox hg;have iT := a3.out;have iU := E.out;have iV := a7.out;have iW := G.out;have iX := a8.out;have iY := J.out;obtain ⟨ap,aq,ar⟩ := qz3_ m;obtain ⟨au,av,aw⟩ := qf3_ m))
 go_loopg [7,20] k (fun kq v7 fo w' => ∃ (aD : Int) (t : Int) (s : List (Int × Int)),v7 = .int .i64 aD ∧ fo = .int .i64 t ∧ Aside0 (a0q.l0 kq l0 l1 aD l1 (l1.length : Int) t ([] : List (Int × Int)) s l0 = some (r1,r2,r3)) ∧ Aside0 (kq ≤ k) ∧ Aside0 (w'.heap[a4]? = some (.cells #[(.slice none 0 0), .map none, .map none] 62 (0,0))) ∧ Aside0 (w'.heap[u]? = some (a1i (Value.int .i64) ([] : List (Int × Int)))) ∧ Aside0 (w'.heap[v]? = some (a1i (V_) s)) ∧ Aside0 (w'.heap[X]? = some (.cells #[(.slice A0 l0.length c0), .map (some u), .map (some v)] 62 (0,0))) ∧ Aside0 (Below w.heap.size w w'))
 case atStart => exact ⟨(0),(0),(([] : List (Int × Int))),qs_,qs_,H',⟨Nat.le_refl _⟩,⟨by refine qdj_ ?_ E;refine qdj_ ?_ E;refine qdj_ ?_ E;refine qd_ ?_;exact l.out⟩,⟨by refine qd_ ?_;refine a0e ?_ G.out _;refine qd_ ?_;refine a0e ?_ G.out _;refine qd_ ?_;refine a0e ?_ G.out _;refine qd_ ?_;exact p.out⟩,⟨by refine qd_ ?_;refine a0e ?_ J.out _;refine qd_ ?_;refine a0e ?_ J.out _;refine qd_ ?_;refine a0e ?_ J.out _;refine qd_ ?_;exact q.out⟩,⟨by refine qd_ ?_;refine a0g (cs := #[.slice A0 l0.length c0, .map (some u), .map none]) ?_ 2 _ rfl;refine qd_ ?_;refine a0g (cs := #[.slice A0 l0.length c0, .map none, .map none]) ?_ 1 _ rfl;refine qd_ ?_;refine a0g (cs := #[.slice none 0 0, .map none, .map none]) ?_ 0 _ rfl;refine qd_ ?_;exact m.out⟩,⟨qb_⟩⟩
 case round =>
 clear H'
 try clear c1
 try clear ap aq ar
 try clear au av aw
 obtain ⟨aD,t,s,rfl,rfl,HA,ae,l,p,q,m,HB⟩ := hrel
 cases gk with
 | zero => exact absurd HA.out (by simp [a0q.l0])
 | succ k1 =>
 have H := HA.out
 clear HA
 simp only [a0q.l0] at H
 by_cases b6 : t < (l1.length : Int)
 ·rw [if_pos b6] at H
  have aO : decide (t < (l1.length : Int)) = true := decide_eq_true b6
  clear b6
  obtain ⟨bq,H⟩ := qid_ H
  obtain ⟨br,H⟩ := qid_ H
  have bG := am_ H
  clear H
  have an : 0 ≤ (t : Int) := ot_
  have ao : t < (l1.length : Int) := ot_
  obtain ⟨gS,ax,ay,dM,ai,ad,b7,b8⟩ := a6u bM.out t an ao
  cases dM
  replace ai := qh_ HB ai
  replace ad := qh_ HB ad
  have bV := am_ b8
  have bW := am_ b7
  clear b8 b7
  have bx := am_ ((HVV.out _).trans (c0m (i := t) bM.out (by first | exact HB.out | exact Below.refl _ _) an ao ad))
  replace an := eq_true an
  replace ao := eq_true ao
  go_upto_region 6 with (first | ((with_reducible refine a0t (N := 9) rfl ?_);(try (refine a3r (by rfl) ?_;dsimp only));refine qev_ 9 #[.int .i64 0, .slice none 0 0] 58 ?_;intro az hg j7 hbox hb;have x := am_ (hbox);have gT := qga_ hg;have gU := qga_ hg;replace HB := qbs_ hb;obtain ⟨L,aa⟩ := qnb_ hg l;replace l := qkb_ l hb;obtain ⟨Y,af⟩ := qnb_ hg p;replace p := qkb_ p hb;obtain ⟨Z,ab⟩ := qnb_ hg q;replace q := qkb_ q hb;obtain ⟨a0,ag⟩ := qnb_ hg m;replace m := qkb_ m hb;clear hb hbox hg;have gV := aa.out;have gW := L.out;have gX := af.out;have gY := Y.out;have gZ := ab.out;have h0 := Z.out;have h1 := ag.out;have h2 := a0.out;obtain ⟨aQ,aR⟩ := qz2_ x;obtain ⟨aS,aT⟩ := qf2_ x))
  (try simp only [Act.put,List.setIfInBounds_toArray,List.set_cons_zero,List.set_cons_succ])
  go_cut [38] (fun fp wc => ∃ (kq : Nat) (aA : Bool),fp = .bool aA ∧ Aside0 (a0q.j1 kq l0 l1 l1 (l1.length : Int) t aA ([] : List (Int × Int)) s l0 ((a1l l1 t).f0) ((a1l l1 t).f1) = some (r1,r2,r3)) ∧ Aside0 (kq ≤ k1) ∧ Aside0 (wc.heap[a4]? = some (.cells #[(.slice none 0 0), .map none, .map none] 62 (0,0))) ∧ Aside0 (wc.heap[u]? = some (a1i (Value.int .i64) ([] : List (Int × Int)))) ∧ Aside0 (wc.heap[v]? = some (a1i (V_) s)) ∧ Aside0 (wc.heap[X]? = some (.cells #[(.slice A0 l0.length c0), .map (some u), .map (some v)] 62 (0,0))) ∧ Aside0 (wc.heap[az]? = some (.cells #[.int .i64 ((a1l l1 t).f0),(.slice ax ((a1l l1 t).f1).length ay)] 58 (0,0))) ∧ Aside0 (Below w.heap.size w wc))
  case first =>
   have H := bG.out
   clear bG
   by_cases b9 : ((a1l l1 t).f0) ≤ aD
   ·rw [if_pos b9] at H
    have ah : decide (((a1l l1 t).f0) ≤ aD) = true := decide_eq_true b9
    clear b9
    (first | rw [ah] | (simp only [a4j,a4v];rw [ah]) | skip)
    have H' := am_ H
    clear H
    have h3 := aa.out
    have h4 := L.out
    have h5 := af.out
    have h6 := Y.out
    have h7 := ab.out
    have h8 := Z.out
    have h9 := ag.out
    have ha := a0.out
    obtain ⟨aU,aV⟩ := qz2_ x;obtain ⟨aW,aX⟩ := qf2_ x
    go_wp2
    go_meet
    case rel => exact ⟨_,(true),qs_,H',⟨by have := ae.out;first | omega | exact Nat.le_refl _⟩,⟨by refine qdj_ ?_ L;refine qdj_ ?_ L;refine qd_ ?_;exact l.out⟩,⟨by refine qd_ ?_;refine a0e ?_ Y.out _;refine qd_ ?_;refine a0e ?_ Y.out _;refine qd_ ?_;exact p.out⟩,⟨by refine qd_ ?_;refine a0e ?_ Z.out _;refine qd_ ?_;refine a0e ?_ Z.out _;refine qd_ ?_;exact q.out⟩,⟨by refine qdj_ ?_ a0;refine qdj_ ?_ a0;refine qd_ ?_;exact m.out⟩,⟨by refine qd_ ?_;refine a0g (cs := #[.int .i64 ((a1l l1 t).f0), .slice none 0 0]) ?_ 1 _ rfl;refine qd_ ?_;refine a0g (cs := #[.int .i64 0, .slice none 0 0]) ?_ 0 _ rfl;refine qd_ ?_;exact x.out⟩,⟨qb_⟩⟩
   rw [if_neg b9] at H
   have ah : decide (((a1l l1 t).f0) ≤ aD) = false := decide_eq_false b9
   clear b9
   (first | rw [ah] | (simp only [a4j,a4v];rw [ah]) | skip)
   by_cases ba : ((a1l l1 t).f0) > 1000
   ·rw [if_pos ba] at H
    have aP : decide (1000 < ((a1l l1 t).f0)) = true := decide_eq_true ba
    clear ba
    have H' := am_ H
    clear H
    have hc := aa.out
    have he := L.out
    have hf := af.out
    have hh := Y.out
    have hj := ab.out
    have hl := Z.out
    have hm := ag.out
    have hn := a0.out
    obtain ⟨aY,aZ⟩ := qz2_ x;obtain ⟨b0,b1⟩ := qf2_ x
    go_wp2
    go_meet
    case rel => exact ⟨_,(true),qs_,H',⟨by have := ae.out;first | omega | exact Nat.le_refl _⟩,⟨by refine qdj_ ?_ L;refine qdj_ ?_ L;refine qd_ ?_;exact l.out⟩,⟨by refine qd_ ?_;refine a0e ?_ Y.out _;refine qd_ ?_;refine a0e ?_ Y.out _;refine qd_ ?_;exact p.out⟩,⟨by refine qd_ ?_;refine a0e ?_ Z.out _;refine qd_ ?_;refine a0e ?_ Z.out _;refine qd_ ?_;exact q.out⟩,⟨by refine qdj_ ?_ a0;refine qdj_ ?_ a0;refine qd_ ?_;exact m.out⟩,⟨by refine qd_ ?_;refine a0g (cs := #[.int .i64 ((a1l l1 t).f0), .slice none 0 0]) ?_ 1 _ rfl;refine qd_ ?_;refine a0g (cs := #[.int .i64 0, .slice none 0 0]) ?_ 0 _ rfl;refine qd_ ?_;exact x.out⟩,⟨qb_⟩⟩
   rw [if_neg ba] at H
   have aP : decide (1000 < ((a1l l1 t).f0)) = false := decide_eq_false ba
   clear ba
   replace H := bm_ H
   obtain ⟨ci,cj,H⟩ := H
   have fq := am_ cj
   clear cj
   have H' := am_ H
   clear H
   have hp := aa.out
   have hq := L.out
   have hr := af.out
   have hs := Y.out
   have ht := ab.out
   have hu := Z.out
   have hw := ag.out
   have hy := a0.out
   obtain ⟨b2,b3⟩ := qz2_ x;obtain ⟨b4,b5⟩ := qf2_ x
   go_wp2_with (first | (go_at_call 49;(with_reducible refine (a1m.calls k1 _ _ ((a1l l1 t).f1) ci _ ?s1 bW.out fq.out).mono ?_);(case s1 => exact Kd.a2s bV.out qb_);rintro e j8 ⟨rfl,hb⟩;replace l := am_ (a2g (g := a4) (o := .cells #[.slice none 0 0, .map none, .map none] 62 (0,0)) (by refine qdj_ ?_ L;refine qdj_ ?_ L;refine qd_ ?_;exact l.out) hb);replace p := am_ (a2g (g := u) (o := a1i (Value.int .i64) ([] : List (Int × Int))) (by refine qd_ ?_;refine a0e ?_ Y.out _;refine qd_ ?_;refine a0e ?_ Y.out _;refine qd_ ?_;exact p.out) hb);replace q := am_ (a2g (g := v) (o := a1i (V_) s) (by refine qd_ ?_;refine a0e ?_ Z.out _;refine qd_ ?_;refine a0e ?_ Z.out _;refine qd_ ?_;exact q.out) hb);replace m := am_ (a2g (g := X) (o := .cells #[.slice A0 l0.length c0, .map (some u), .map (some v)] 62 (0,0)) (by refine qdj_ ?_ a0;refine qdj_ ?_ a0;refine qd_ ?_;exact m.out) hb);replace x := am_ (a2g (g := az) (o := .cells #[.int .i64 ((a1l l1 t).f0), .slice ax ((a1l l1 t).f1).length ay] 58 (0,0)) (by refine qd_ ?_;refine a0g (cs := #[.int .i64 ((a1l l1 t).f0), .slice none 0 0]) ?_ 1 _ rfl;refine qd_ ?_;refine a0g (cs := #[.int .i64 0, .slice none 0 0]) ?_ 0 _ rfl;refine qd_ ?_;exact x.out) hb);replace HB := qbs_ hb;(try clear hb);(try clear j9);(try clear hk);(try clear hi)))
   go_meet
   case rel => exact ⟨_,(!ci),qs_,H',⟨by have := ae.out;first | omega | exact Nat.le_refl _⟩,⟨qk_ l⟩,⟨qk_ p⟩,⟨qk_ q⟩,⟨qk_ m⟩,⟨qk_ x⟩,⟨qb_⟩⟩
  case rest =>
  clear bG
  try clear c1
  try clear aO
  try clear bq
  try clear br
  try clear ah
  try clear aP
  try clear ap aq ar
  try clear aQ aR
  try clear aU aV
  try clear aY aZ
  try clear b2 b3
  try clear au av aw
  try clear aS aT
  try clear aW aX
  try clear b0 b1
  try clear b4 b5
  try clear ai
  try clear ad
  try clear an
  try clear ao
  obtain ⟨kq,aA,rfl,HA,ck,l,p,q,m,x,HB⟩ := hcut
  cases kq with
  | zero => exact absurd HA.out (by simp [a0q.j1])
  | succ dN =>
  have H := HA.out
  clear HA
  simp only [a0q.j1] at H
  by_cases bb : aA = true
  ·subst bb
   replace H := qip_ H
   simp only [Option.some.injEq,Prod.mk.injEq] at H
   obtain ⟨rfl,rfl,rfl⟩ := H
   have hz := a5.out
   have hA := z.out
   have hB := a6.out
   have hC := A.out
   have hD := E.out
   have hE := a3.out
   have hF := L.out
   have hG := aa.out
   obtain ⟨bz,bA,bB⟩ := qz3_ l;obtain ⟨bC,bD,bE⟩ := qf3_ l
   go_wp2
   refine bodyPost_ret (a5y rfl _ _ a4 62 #[.slice none 0 0, .map none, .map none] (0,0) _ rfl (by refine qd_ ?_;refine a0g (cs := #[.slice none 0 0, .map none, .map none]) ?_ 2 _ rfl;refine qd_ ?_;refine a0g (cs := #[.slice none 0 0, .map none, .map none]) ?_ 1 _ rfl;refine qd_ ?_;refine a0g (cs := #[.slice none 0 0, .map none, .map none]) ?_ 0 _ rfl;refine qd_ ?_;exact l.out) Try.underlying62 rfl (by kernel_rfl)) rfl ?_
   exact ⟨_,_,_,_,_,by first | rfl | (simp;done) | (simp [*] <;> rfl),fun h_ => absurd h_ (by simp),qb_⟩
  replace bb := be_ bb
  subst bb
  replace H := qin_ H
  have H' := am_ H
  clear H
  try go_wp2
  replace l := am_ (bd_ l.out)
  replace p := am_ (bd_ p.out)
  replace q := am_ (bd_ q.out)
  replace m := am_ (bd_ m.out)
  replace x := am_ (bd_ x.out)
  replace HB := am_ (ld_ HB.out)
  refine a4l (n := 10) (S := fun w' => w'.cell? ⟨X,0,none⟩ = some (.slice A0 l0.length c0) ∧ w'.cell? ⟨X,1,none⟩ = some (.map (some u)) ∧ w'.cell? ⟨X,2,none⟩ = some (.map (some v)) ∧ w'.cell? ⟨az,0,none⟩ = some (.int .i64 ((a1l l1 t).f0)) ∧ w'.cell? ⟨az,1,none⟩ = some (.slice ax ((a1l l1 t).f1).length ay)) (ds := []) #[I,I,I,I,I,I,I,I,I,I] (by kernel_rfl) rfl rfl ⟨(bc_ m.out 0).trans rfl,(bc_ m.out 1).trans rfl,(bc_ m.out 2).trans rfl,(bc_ x.out 0).trans rfl,(bc_ x.out 1).trans rfl⟩ (fun hHeld => ?_);refine a3s a0q.tab8 a0q.b3x (fun HT_ HW_ => ?_)
  generalize wc.drew = ja at l p q m x HB hHeld ⊢
  refine qpu_ 0 (some 40) #[U,I,I,I,I,I,I,I,I,I] ?_
  refine qpu_ 2 (some 42) #[U,I,U,I,I,I,I,I,I,I] ?_
  refine qpu_ 4 (some 44) #[U,I,U,I,U,I,I,I,I,I] ?_
  refine qpu_ 6 (some 46) #[U,I,U,I,U,I,U,I,I,I] ?_
  refine b3v 1 (some 41) #[U,U,U,I,U,I,U,I,I,I] hHeld ?_
  refine b3v 3 (some 43) #[U,U,U,U,U,I,U,I,I,I] hHeld ?_
  refine b3v 5 (some 45) #[U,U,U,U,U,U,U,I,I,I] hHeld ?_
  refine b3v 7 (some 47) #[U,U,U,U,U,U,U,U,I,I] hHeld ?_
  refine one_ (i := 8) (N := none) #[U,U,U,U,U,U,U,U,U,I] rfl rfl (a4m HT_.out (by kernel_rfl)) (by decide) (fun K hK => ?_)
  refine b3m (by rfl) rfl (M := s) (k := ((a1l l1 t).f0)) (y := t) Try.underlying60 Try.underlying3 (qk_ q) rfl ?hx ?hv ?_;(case hx => first | rfl | (go_simp;done) | (go_simp;rfl));(case hv => first | exact bx.out.symm | (go_simp;exact bx.out.symm))
  intro jb hM hg
  replace l := am_ (a4k (g := a4) (o := .cells #[.slice none 0 0, .map none, .map none] 62 (0,0)) (qk_ l) hg (fun h_ => a6.out (si_ h_)))
  replace p := am_ (a4k (g := u) (o := a1i (Value.int .i64) ([] : List (Int × Int))) (qk_ p) hg (fun h_ => a9.out (si_ h_)))
  replace q := am_ (hM)
  replace m := am_ (a4k (g := X) (o := .cells #[.slice A0 l0.length c0, .map (some u), .map (some v)] 62 (0,0)) (qk_ m) hg (fun h_ => a8.out (si_ h_)))
  replace x := am_ (a4k (g := az) (o := .cells #[.int .i64 ((a1l l1 t).f0), .slice ax ((a1l l1 t).f1).length ay] 58 (0,0)) (qk_ x) hg (fun h_ => ab.out (si_ h_)))
  replace HB := am_ (b0g qb_ hg bp.out)
  clear hg hM
  refine hK.out _ _ ⟨(bc_ m.out 0).trans rfl,(bc_ m.out 1).trans rfl,(bc_ m.out 2).trans rfl,(bc_ x.out 0).trans rfl,(bc_ x.out 1).trans rfl⟩ (fun hHeld => ?_)
  clear hK K
  refine qpu_ 9 (some 7) #[U,U,U,U,U,U,U,U,U,U] ?_
  refine a4u (a4c HT_.out (by kernel_rfl)) ?_
  try go_wp2
  go_roundg dN
  case measure => have := ae.out;have := ck.out;omega
  case rel => exact ⟨(((a1l l1 t).f0)),(wrap64 (t + 1)),(mput s ((a1l l1 t).f0) t),qs_,qs_,H',⟨by have := ae.out;have := ck.out;omega⟩,⟨qk_ l⟩,⟨qk_ p⟩,⟨qk_ q⟩,⟨qk_ m⟩,⟨qb_⟩⟩
 rw [if_neg b6] at H
 have aO : decide (t < (l1.length : Int)) = false := decide_eq_false b6
 clear b6
 have H' := am_ H
 clear H
 go_wp2
 go_loopg [7,51] k1 (fun kq v7 fr w' => ∃ (aE : Int) (a : Int) (O : List (Int × Int)),v7 = .int .i64 aE ∧ fr = .int .i64 a ∧ Aside0 (a0q.l1 kq l0 l1 aE l0 (l0.length : Int) a O s l0 = some (r1,r2,r3)) ∧ Aside0 (kq ≤ k1) ∧ Aside0 (w'.heap[a4]? = some (.cells #[(.slice none 0 0), .map none, .map none] 62 (0,0))) ∧ Aside0 (w'.heap[u]? = some (a1i (Value.int .i64) O)) ∧ Aside0 (w'.heap[v]? = some (a1i (V_) s)) ∧ Aside0 (w'.heap[X]? = some (.cells #[(.slice A0 l0.length c0), .map (some u), .map (some v)] 62 (0,0))) ∧ Aside0 (Below w.heap.size w w'))
 case atStart => exact ⟨(0),(0),(([] : List (Int × Int))),qs_,qs_,H',⟨Nat.le_refl _⟩,⟨qk_ l⟩,⟨qk_ p⟩,⟨qk_ q⟩,⟨qk_ m⟩,⟨qb_⟩⟩
 case round =>
 clear H'
 try clear c1
 try clear aO
 try clear bq
 try clear br
 try clear ah
 try clear aP
 try clear bb
 try clear ap aq ar
 try clear aQ aR
 try clear aU aV
 try clear aY aZ
 try clear b2 b3
 try clear bz bA bB
 try clear au av aw
 try clear aS aT
 try clear aW aX
 try clear b0 b1
 try clear b4 b5
 try clear bC bD bE
 try clear ai
 try clear ad
 try clear an
 try clear ao
 obtain ⟨aE,a,O,rfl,rfl,HA,aB,l,p,q,m,HB⟩ := hrel
 cases gk with
 | zero => exact absurd HA.out (by simp [a0q.l1])
 | succ k2 =>
 have H := HA.out
 clear HA
 simp only [a0q.l1] at H
 by_cases bc : a < (l0.length : Int)
 rotate_left
 ·rw [if_neg bc] at H
  have bN : decide (a < (l0.length : Int)) = false := decide_eq_false bc
  clear bc
  by_cases aF : (l1.length : Int) ≤ 20
  rotate_left
  ·rw [if_neg aF] at H
   have cl : decide ((l1.length : Int) ≤ 20) = false := decide_eq_false aF
   have cm : decide (l1.length ≤ 20) = false := decide_eq_false (by omega)
   clear aF
   simp only [Option.some.injEq,Prod.mk.injEq] at H
   obtain ⟨rfl,rfl,rfl⟩ := H
   have fs := a3.out
   have ft := E.out
   have fu := a7.out
   have fv := G.out
   have fw := a8.out
   have fx := J.out
   obtain ⟨dR,dS,dT⟩ := qz3_ m;obtain ⟨dU,dV,dW⟩ := qf3_ m
   have fy := a5.out
   have fz := z.out
   have fA := a6.out
   have fB := A.out
   obtain ⟨dX,dY,dZ⟩ := qz3_ l;obtain ⟨e0,e1,e2⟩ := qf3_ l
   go_wp2
   refine bodyPost_ret (a5y rfl _ _ a4 62 #[.slice A0 l0.length c0, .map (some u), .map (some v)] (0,0) _ rfl (by refine qd_ ?_;refine a0g (cs := #[.slice A0 l0.length c0, .map (some u), .map none]) ?_ 2 _ rfl;refine qd_ ?_;refine a0g (cs := #[.slice A0 l0.length c0, .map none, .map none]) ?_ 1 _ rfl;refine qd_ ?_;refine a0g (cs := #[.slice none 0 0, .map none, .map none]) ?_ 0 _ rfl;refine qd_ ?_;exact l.out) Try.underlying62 rfl (by kernel_rfl)) rfl ?_
   exact ⟨_,_,_,_,_,by first | rfl | (simp;done) | (simp [*] <;> rfl),fun _ => ⟨rfl,u,v,rfl,rfl,bo.out,bp.out,a9.out,by refine qd_ ?_;refine a0e ?_ z.out _;refine qd_ ?_;refine a0e ?_ z.out _;refine qd_ ?_;refine a0e ?_ z.out _;refine qd_ ?_;exact p.out,by refine qd_ ?_;refine a0e ?_ A.out _;refine qd_ ?_;refine a0e ?_ A.out _;refine qd_ ?_;refine a0e ?_ A.out _;refine qd_ ?_;exact q.out⟩,qb_⟩
  rw [if_pos aF] at H
  have cl : decide ((l1.length : Int) ≤ 20) = true := decide_eq_true aF
  have cm : decide (l1.length ≤ 20) = true := decide_eq_true (by omega)
  clear aF
  simp only [Option.some.injEq,Prod.mk.injEq] at H
  obtain ⟨rfl,rfl,rfl⟩ := H
  have fC := a3.out
  have fD := E.out
  have fE := a7.out
  have fF := G.out
  have fG := a8.out
  have fH := J.out
  obtain ⟨e3,e4,e5⟩ := qz3_ m;obtain ⟨e6,e7,e8⟩ := qf3_ m
  have fI := a5.out
  have fJ := z.out
  have fK := a6.out
  have fL := A.out
  obtain ⟨e9,ea,eb⟩ := qz3_ l;obtain ⟨ec,ed,ee⟩ := qf3_ l
  go_wp2
  refine bodyPost_ret (a5y rfl _ _ a4 62 #[.slice A0 l0.length c0, .map (some u), .map (some v)] (0,0) _ rfl (by refine qd_ ?_;refine a0g (cs := #[.slice A0 l0.length c0, .map (some u), .map none]) ?_ 2 _ rfl;refine qd_ ?_;refine a0g (cs := #[.slice A0 l0.length c0, .map none, .map none]) ?_ 1 _ rfl;refine qd_ ?_;refine a0g (cs := #[.slice none 0 0, .map none, .map none]) ?_ 0 _ rfl;refine qd_ ?_;exact l.out) Try.underlying62 rfl (by kernel_rfl)) rfl ?_
  exact ⟨_,_,_,_,_,by first | rfl | (simp;done) | (simp [*] <;> rfl),fun _ => ⟨rfl,u,v,rfl,rfl,bo.out,bp.out,a9.out,by refine qd_ ?_;refine a0e ?_ z.out _;refine qd_ ?_;refine a0e ?_ z.out _;refine qd_ ?_;refine a0e ?_ z.out _;refine qd_ ?_;exact p.out,by refine qd_ ?_;refine a0e ?_ A.out _;refine qd_ ?_;refine a0e ?_ A.out _;refine qd_ ?_;refine a0e ?_ A.out _;refine qd_ ?_;exact q.out⟩,qb_⟩
 rw [if_pos bc] at H
 have bN : decide (a < (l0.length : Int)) = true := decide_eq_true bc
 clear bc
 obtain ⟨dE,H⟩ := qid_ H
 obtain ⟨dF,H⟩ := qid_ H
 have bH := am_ H
 clear H
 have bs : 0 ≤ (a : Int) := ot_
 have bt : a < (l0.length : Int) := ot_
 obtain ⟨aj,a1,a2,ak,al,dO,aG,aH,aI,aJ,aK,bd,be,bf,bg⟩ := a5j ch.out a bs bt
 cases dO
 replace aG := qh_ HB aG
 replace aH := qh_ HB aH
 replace aI := qh_ HB aI
 replace aJ := qh_ HB aJ
 replace aK := qh_ HB aK
 have aL := am_ be
 have aM := am_ bd
 clear be bd
 have bh := am_ bg
 have bi := am_ bf
 clear bg bf
 replace bs := eq_true bs
 replace bt := eq_true bt
 go_upto_region 14 with (first | ((with_reducible refine a0t (N := 11) rfl ?_);(try (refine a3r (by rfl) ?_;dsimp only));refine qev_ 11 #[.int .i64 0, .int .i64 0, .int .i64 0, .slice none 0 0, .slice none 0 0] 51 ?_;intro ac hg jc hbox hb;have r := am_ (hbox);have hH := qga_ hg;have hI := qga_ hg;replace HB := qbs_ hb;obtain ⟨b,B⟩ := qnb_ hg l;replace l := qkb_ l hb;obtain ⟨c,D⟩ := qnb_ hg p;replace p := qkb_ p hb;obtain ⟨d,P⟩ := qnb_ hg q;replace q := qkb_ q hb;obtain ⟨j,W⟩ := qnb_ hg m;replace m := qkb_ m hb;clear hb hbox hg;have hJ := B.out;have hL := b.out;have hN := D.out;have hO := c.out;have hP := P.out;have hQ := d.out;have hR := W.out;have hS := j.out;obtain ⟨cn,co,cp,cq,cr⟩ := qz5_ r;obtain ⟨ct,cu,cv,cw,cx⟩ := qf5_ r))
 (try simp only [Act.put,List.setIfInBounds_toArray,List.set_cons_zero,List.set_cons_succ])
 go_cut [92] (fun fM wc => ∃ (kq : Nat) (aC : Bool),fM = .bool aC ∧ Aside0 (a0q.j3 kq l0 l1 a l0 (l0.length : Int) a aC O s l0 ((a0a l0 a).f0) ((a0a l0 a).f1) ((a0a l0 a).f2) ((a0a l0 a).f3) ((a0a l0 a).f4) = some (r1,r2,r3)) ∧ Aside0 (kq ≤ k2) ∧ Aside0 (wc.heap[a4]? = some (.cells #[(.slice none 0 0), .map none, .map none] 62 (0,0))) ∧ Aside0 (wc.heap[u]? = some (a1i (Value.int .i64) O)) ∧ Aside0 (wc.heap[v]? = some (a1i (V_) s)) ∧ Aside0 (wc.heap[X]? = some (.cells #[(.slice (some aj) l0.length c0), .map (some u), .map (some v)] 62 (0,0))) ∧ Aside0 (wc.heap[ac]? = some (.cells #[.int .i64 ((a0a l0 a).f0), .int .i64 ((a0a l0 a).f1), .int .i64 ((a0a l0 a).f2),(.slice a1 ((a0a l0 a).f3).length a2),(.slice ak ((a0a l0 a).f4).length al)] 51 (0,0))) ∧ Aside0 (Below w.heap.size w wc))
 case first =>
  have H := bH.out
  clear bH
  by_cases bj : ((a0a l0 a).f0) ≤ aE
  ·rw [if_pos bj] at H
   have am : decide (((a0a l0 a).f0) ≤ aE) = true := decide_eq_true bj
   clear bj
   (first | rw [am] | (simp only [a4j,a4v];rw [am]) | skip)
   have H' := am_ H
   clear H
   have hT := B.out
   have hU := b.out
   have hV := D.out
   have hW := c.out
   have hX := P.out
   have hY := d.out
   have hZ := W.out
   have i0 := j.out
   obtain ⟨cy,cz,cA,cB,cC⟩ := qz5_ r;obtain ⟨cD,cE,cF,cG,cH⟩ := qf5_ r
   go_wp2
   go_meet
   case rel => exact ⟨_,(true),qs_,H',⟨by have := ae.out;have := aB.out;first | omega | exact Nat.le_refl _⟩,⟨by refine qdj_ ?_ b;refine qdj_ ?_ b;refine qdj_ ?_ b;refine qdj_ ?_ b;refine qdj_ ?_ b;refine qd_ ?_;exact l.out⟩,⟨by refine qd_ ?_;refine a0e ?_ c.out _;refine qd_ ?_;refine a0e ?_ c.out _;refine qd_ ?_;refine a0e ?_ c.out _;refine qd_ ?_;refine a0e ?_ c.out _;refine qd_ ?_;refine a0e ?_ c.out _;refine qd_ ?_;exact p.out⟩,⟨by refine qd_ ?_;refine a0e ?_ d.out _;refine qd_ ?_;refine a0e ?_ d.out _;refine qd_ ?_;refine a0e ?_ d.out _;refine qd_ ?_;refine a0e ?_ d.out _;refine qd_ ?_;refine a0e ?_ d.out _;refine qd_ ?_;exact q.out⟩,⟨by refine qdj_ ?_ j;refine qdj_ ?_ j;refine qdj_ ?_ j;refine qdj_ ?_ j;refine qdj_ ?_ j;refine qd_ ?_;exact m.out⟩,⟨by refine qd_ ?_;refine a0g (cs := #[.int .i64 ((a0a l0 a).f0), .int .i64 ((a0a l0 a).f1), .int .i64 ((a0a l0 a).f2), .slice a1 ((a0a l0 a).f3).length a2, .slice none 0 0]) ?_ 4 _ rfl;refine qd_ ?_;refine a0g (cs := #[.int .i64 ((a0a l0 a).f0), .int .i64 ((a0a l0 a).f1), .int .i64 ((a0a l0 a).f2), .slice none 0 0, .slice none 0 0]) ?_ 3 _ rfl;refine qd_ ?_;refine a0g (cs := #[.int .i64 ((a0a l0 a).f0), .int .i64 ((a0a l0 a).f1), .int .i64 0, .slice none 0 0, .slice none 0 0]) ?_ 2 _ rfl;refine qd_ ?_;refine a0g (cs := #[.int .i64 ((a0a l0 a).f0), .int .i64 0, .int .i64 0, .slice none 0 0, .slice none 0 0]) ?_ 1 _ rfl;refine qd_ ?_;refine a0g (cs := #[.int .i64 0, .int .i64 0, .int .i64 0, .slice none 0 0, .slice none 0 0]) ?_ 0 _ rfl;refine qd_ ?_;exact r.out⟩,⟨qb_⟩⟩
  rw [if_neg bj] at H
  have am : decide (((a0a l0 a).f0) ≤ aE) = false := decide_eq_false bj
  clear bj
  (first | rw [am] | (simp only [a4j,a4v];rw [am]) | skip)
  by_cases bk : ((a0a l0 a).f0) > 1000
  ·rw [if_pos bk] at H
   have bO : decide (1000 < ((a0a l0 a).f0)) = true := decide_eq_true bk
   clear bk
   have H' := am_ H
   clear H
   have i1 := B.out
   have i2 := b.out
   have i3 := D.out
   have i4 := c.out
   have i5 := P.out
   have i6 := d.out
   have i7 := W.out
   have i8 := j.out
   obtain ⟨cI,cJ,cK,cL,cM⟩ := qz5_ r;obtain ⟨cN,cO,cP,cQ,cR⟩ := qf5_ r
   go_wp2
   go_meet
   case rel => exact ⟨_,(true),qs_,H',⟨by have := ae.out;have := aB.out;first | omega | exact Nat.le_refl _⟩,⟨by refine qdj_ ?_ b;refine qdj_ ?_ b;refine qdj_ ?_ b;refine qdj_ ?_ b;refine qdj_ ?_ b;refine qd_ ?_;exact l.out⟩,⟨by refine qd_ ?_;refine a0e ?_ c.out _;refine qd_ ?_;refine a0e ?_ c.out _;refine qd_ ?_;refine a0e ?_ c.out _;refine qd_ ?_;refine a0e ?_ c.out _;refine qd_ ?_;refine a0e ?_ c.out _;refine qd_ ?_;exact p.out⟩,⟨by refine qd_ ?_;refine a0e ?_ d.out _;refine qd_ ?_;refine a0e ?_ d.out _;refine qd_ ?_;refine a0e ?_ d.out _;refine qd_ ?_;refine a0e ?_ d.out _;refine qd_ ?_;refine a0e ?_ d.out _;refine qd_ ?_;exact q.out⟩,⟨by refine qdj_ ?_ j;refine qdj_ ?_ j;refine qdj_ ?_ j;refine qdj_ ?_ j;refine qdj_ ?_ j;refine qd_ ?_;exact m.out⟩,⟨by refine qd_ ?_;refine a0g (cs := #[.int .i64 ((a0a l0 a).f0), .int .i64 ((a0a l0 a).f1), .int .i64 ((a0a l0 a).f2), .slice a1 ((a0a l0 a).f3).length a2, .slice none 0 0]) ?_ 4 _ rfl;refine qd_ ?_;refine a0g (cs := #[.int .i64 ((a0a l0 a).f0), .int .i64 ((a0a l0 a).f1), .int .i64 ((a0a l0 a).f2), .slice none 0 0, .slice none 0 0]) ?_ 3 _ rfl;refine qd_ ?_;refine a0g (cs := #[.int .i64 ((a0a l0 a).f0), .int .i64 ((a0a l0 a).f1), .int .i64 0, .slice none 0 0, .slice none 0 0]) ?_ 2 _ rfl;refine qd_ ?_;refine a0g (cs := #[.int .i64 ((a0a l0 a).f0), .int .i64 0, .int .i64 0, .slice none 0 0, .slice none 0 0]) ?_ 1 _ rfl;refine qd_ ?_;refine a0g (cs := #[.int .i64 0, .int .i64 0, .int .i64 0, .slice none 0 0, .slice none 0 0]) ?_ 0 _ rfl;refine qd_ ?_;exact r.out⟩,⟨qb_⟩⟩
  rw [if_neg bk] at H
  have bO : decide (1000 < ((a0a l0 a).f0)) = false := decide_eq_false bk
  clear bk
  by_cases bl : ((a0a l0 a).f2) < 1
  ·rw [if_pos bl] at H
   have bP : decide (((a0a l0 a).f2) < 1) = true := decide_eq_true bl
   clear bl
   have H' := am_ H
   clear H
   have i9 := B.out
   have ia := b.out
   have ib := D.out
   have ic := c.out
   have id := P.out
   have ie := d.out
   have ig := W.out
   have ih := j.out
   obtain ⟨cS,cT,cU,cV,cW⟩ := qz5_ r;obtain ⟨cX,cY,cZ,d0,d1⟩ := qf5_ r
   go_wp2
   go_meet
   case rel => exact ⟨_,(true),qs_,H',⟨by have := ae.out;have := aB.out;first | omega | exact Nat.le_refl _⟩,⟨by refine qdj_ ?_ b;refine qdj_ ?_ b;refine qdj_ ?_ b;refine qdj_ ?_ b;refine qdj_ ?_ b;refine qd_ ?_;exact l.out⟩,⟨by refine qd_ ?_;refine a0e ?_ c.out _;refine qd_ ?_;refine a0e ?_ c.out _;refine qd_ ?_;refine a0e ?_ c.out _;refine qd_ ?_;refine a0e ?_ c.out _;refine qd_ ?_;refine a0e ?_ c.out _;refine qd_ ?_;exact p.out⟩,⟨by refine qd_ ?_;refine a0e ?_ d.out _;refine qd_ ?_;refine a0e ?_ d.out _;refine qd_ ?_;refine a0e ?_ d.out _;refine qd_ ?_;refine a0e ?_ d.out _;refine qd_ ?_;refine a0e ?_ d.out _;refine qd_ ?_;exact q.out⟩,⟨by refine qdj_ ?_ j;refine qdj_ ?_ j;refine qdj_ ?_ j;refine qdj_ ?_ j;refine qdj_ ?_ j;refine qd_ ?_;exact m.out⟩,⟨by refine qd_ ?_;refine a0g (cs := #[.int .i64 ((a0a l0 a).f0), .int .i64 ((a0a l0 a).f1), .int .i64 ((a0a l0 a).f2), .slice a1 ((a0a l0 a).f3).length a2, .slice none 0 0]) ?_ 4 _ rfl;refine qd_ ?_;refine a0g (cs := #[.int .i64 ((a0a l0 a).f0), .int .i64 ((a0a l0 a).f1), .int .i64 ((a0a l0 a).f2), .slice none 0 0, .slice none 0 0]) ?_ 3 _ rfl;refine qd_ ?_;refine a0g (cs := #[.int .i64 ((a0a l0 a).f0), .int .i64 ((a0a l0 a).f1), .int .i64 0, .slice none 0 0, .slice none 0 0]) ?_ 2 _ rfl;refine qd_ ?_;refine a0g (cs := #[.int .i64 ((a0a l0 a).f0), .int .i64 0, .int .i64 0, .slice none 0 0, .slice none 0 0]) ?_ 1 _ rfl;refine qd_ ?_;refine a0g (cs := #[.int .i64 0, .int .i64 0, .int .i64 0, .slice none 0 0, .slice none 0 0]) ?_ 0 _ rfl;refine qd_ ?_;exact r.out⟩,⟨qb_⟩⟩
  rw [if_neg bl] at H
  have bP : decide (((a0a l0 a).f2) < 1) = false := decide_eq_false bl
  clear bl
  by_cases bm : ((a0a l0 a).f2) > 100
  ·rw [if_pos bm] at H
   have bQ : decide (100 < ((a0a l0 a).f2)) = true := decide_eq_true bm
   clear bm
   have H' := am_ H
   clear H
   have ii := B.out
   have ij := b.out
   have ik := D.out
   have il := c.out
   have im := P.out
   have io := d.out
   have ip := W.out
   have iq := j.out
   obtain ⟨d2,d3,d4,d5,d6⟩ := qz5_ r;obtain ⟨d7,d8,d9,da,db⟩ := qf5_ r
   go_wp2
   go_meet
   case rel => exact ⟨_,(true),qs_,H',⟨by have := ae.out;have := aB.out;first | omega | exact Nat.le_refl _⟩,⟨by refine qdj_ ?_ b;refine qdj_ ?_ b;refine qdj_ ?_ b;refine qdj_ ?_ b;refine qdj_ ?_ b;refine qd_ ?_;exact l.out⟩,⟨by refine qd_ ?_;refine a0e ?_ c.out _;refine qd_ ?_;refine a0e ?_ c.out _;refine qd_ ?_;refine a0e ?_ c.out _;refine qd_ ?_;refine a0e ?_ c.out _;refine qd_ ?_;refine a0e ?_ c.out _;refine qd_ ?_;exact p.out⟩,⟨by refine qd_ ?_;refine a0e ?_ d.out _;refine qd_ ?_;refine a0e ?_ d.out _;refine qd_ ?_;refine a0e ?_ d.out _;refine qd_ ?_;refine a0e ?_ d.out _;refine qd_ ?_;refine a0e ?_ d.out _;refine qd_ ?_;exact q.out⟩,⟨by refine qdj_ ?_ j;refine qdj_ ?_ j;refine qdj_ ?_ j;refine qdj_ ?_ j;refine qdj_ ?_ j;refine qd_ ?_;exact m.out⟩,⟨by refine qd_ ?_;refine a0g (cs := #[.int .i64 ((a0a l0 a).f0), .int .i64 ((a0a l0 a).f1), .int .i64 ((a0a l0 a).f2), .slice a1 ((a0a l0 a).f3).length a2, .slice none 0 0]) ?_ 4 _ rfl;refine qd_ ?_;refine a0g (cs := #[.int .i64 ((a0a l0 a).f0), .int .i64 ((a0a l0 a).f1), .int .i64 ((a0a l0 a).f2), .slice none 0 0, .slice none 0 0]) ?_ 3 _ rfl;refine qd_ ?_;refine a0g (cs := #[.int .i64 ((a0a l0 a).f0), .int .i64 ((a0a l0 a).f1), .int .i64 0, .slice none 0 0, .slice none 0 0]) ?_ 2 _ rfl;refine qd_ ?_;refine a0g (cs := #[.int .i64 ((a0a l0 a).f0), .int .i64 0, .int .i64 0, .slice none 0 0, .slice none 0 0]) ?_ 1 _ rfl;refine qd_ ?_;refine a0g (cs := #[.int .i64 0, .int .i64 0, .int .i64 0, .slice none 0 0, .slice none 0 0]) ?_ 0 _ rfl;refine qd_ ?_;exact r.out⟩,⟨qb_⟩⟩
  rw [if_neg bm] at H
  have bQ : decide (100 < ((a0a l0 a).f2)) = false := decide_eq_false bm
  clear bm
  by_cases bn : (((a0a l0 a).f4).length : Int) > 8
  ·rw [if_pos bn] at H
   have bR : decide (8 < (((a0a l0 a).f4).length : Int)) = true := decide_eq_true bn
   have bS : decide (8 < ((a0a l0 a).f4).length) = true := decide_eq_true (by omega)
   clear bn
   have H' := am_ H
   clear H
   have ir := B.out
   have it := b.out
   have iu := D.out
   have iv := c.out
   have iw := P.out
   have ix := d.out
   have iy := W.out
   have iz := j.out
   obtain ⟨dc,dd,de,df,dg⟩ := qz5_ r;obtain ⟨dh,di,dj,dk,dl⟩ := qf5_ r
   go_wp2
   go_meet
   case rel => exact ⟨_,(true),qs_,H',⟨by have := ae.out;have := aB.out;first | omega | exact Nat.le_refl _⟩,⟨by refine qdj_ ?_ b;refine qdj_ ?_ b;refine qdj_ ?_ b;refine qdj_ ?_ b;refine qdj_ ?_ b;refine qd_ ?_;exact l.out⟩,⟨by refine qd_ ?_;refine a0e ?_ c.out _;refine qd_ ?_;refine a0e ?_ c.out _;refine qd_ ?_;refine a0e ?_ c.out _;refine qd_ ?_;refine a0e ?_ c.out _;refine qd_ ?_;refine a0e ?_ c.out _;refine qd_ ?_;exact p.out⟩,⟨by refine qd_ ?_;refine a0e ?_ d.out _;refine qd_ ?_;refine a0e ?_ d.out _;refine qd_ ?_;refine a0e ?_ d.out _;refine qd_ ?_;refine a0e ?_ d.out _;refine qd_ ?_;refine a0e ?_ d.out _;refine qd_ ?_;exact q.out⟩,⟨by refine qdj_ ?_ j;refine qdj_ ?_ j;refine qdj_ ?_ j;refine qdj_ ?_ j;refine qdj_ ?_ j;refine qd_ ?_;exact m.out⟩,⟨by refine qd_ ?_;refine a0g (cs := #[.int .i64 ((a0a l0 a).f0), .int .i64 ((a0a l0 a).f1), .int .i64 ((a0a l0 a).f2), .slice a1 ((a0a l0 a).f3).length a2, .slice none 0 0]) ?_ 4 _ rfl;refine qd_ ?_;refine a0g (cs := #[.int .i64 ((a0a l0 a).f0), .int .i64 ((a0a l0 a).f1), .int .i64 ((a0a l0 a).f2), .slice none 0 0, .slice none 0 0]) ?_ 3 _ rfl;refine qd_ ?_;refine a0g (cs := #[.int .i64 ((a0a l0 a).f0), .int .i64 ((a0a l0 a).f1), .int .i64 0, .slice none 0 0, .slice none 0 0]) ?_ 2 _ rfl;refine qd_ ?_;refine a0g (cs := #[.int .i64 ((a0a l0 a).f0), .int .i64 0, .int .i64 0, .slice none 0 0, .slice none 0 0]) ?_ 1 _ rfl;refine qd_ ?_;refine a0g (cs := #[.int .i64 0, .int .i64 0, .int .i64 0, .slice none 0 0, .slice none 0 0]) ?_ 0 _ rfl;refine qd_ ?_;exact r.out⟩,⟨qb_⟩⟩
  rw [if_neg bn] at H
  have bR : decide (8 < (((a0a l0 a).f4).length : Int)) = false := decide_eq_false bn
  have bS : decide (8 < ((a0a l0 a).f4).length) = false := decide_eq_false (by omega)
  clear bn
  replace H := bm_ H
  obtain ⟨dP,dm,H⟩ := H
  have dL := am_ dm
  clear dm
  by_cases bF : dP = true
  rotate_left
  ·replace bF := be_ bF
   subst bF
   replace H := qin_ H
   have H' := am_ H
   clear H
   have iA := B.out
   have iB := b.out
   have iC := D.out
   have iD := c.out
   have iE := P.out
   have iF := d.out
   have iG := W.out
   have iH := j.out
   obtain ⟨bX,bY,bZ,ca,cb⟩ := qz5_ r;obtain ⟨cc,cd,ce,cf,cg⟩ := qf5_ r
   go_wp2_with (first | (go_at_call 46;(with_reducible refine (a0x.calls k2 _ _ ((a0a l0 a).f4) 1 64 false _ ?s1 bi.out dL.out).mono ?_);(case s1 => exact Kd.a2s bh.out qb_);rintro e w' ⟨rfl,⟨nd,rfl⟩⟩))
   go_meet
   case rel => exact ⟨_,(true),qs_,H',⟨by have := ae.out;have := aB.out;first | omega | exact Nat.le_refl _⟩,⟨by refine qdj_ ?_ b;refine qdj_ ?_ b;refine qdj_ ?_ b;refine qdj_ ?_ b;refine qdj_ ?_ b;refine qd_ ?_;exact l.out⟩,⟨by refine qd_ ?_;refine a0e ?_ c.out _;refine qd_ ?_;refine a0e ?_ c.out _;refine qd_ ?_;refine a0e ?_ c.out _;refine qd_ ?_;refine a0e ?_ c.out _;refine qd_ ?_;refine a0e ?_ c.out _;refine qd_ ?_;exact p.out⟩,⟨by refine qd_ ?_;refine a0e ?_ d.out _;refine qd_ ?_;refine a0e ?_ d.out _;refine qd_ ?_;refine a0e ?_ d.out _;refine qd_ ?_;refine a0e ?_ d.out _;refine qd_ ?_;refine a0e ?_ d.out _;refine qd_ ?_;exact q.out⟩,⟨by refine qdj_ ?_ j;refine qdj_ ?_ j;refine qdj_ ?_ j;refine qdj_ ?_ j;refine qdj_ ?_ j;refine qd_ ?_;exact m.out⟩,⟨by refine qd_ ?_;refine a0g (cs := #[.int .i64 ((a0a l0 a).f0), .int .i64 ((a0a l0 a).f1), .int .i64 ((a0a l0 a).f2), .slice a1 ((a0a l0 a).f3).length a2, .slice none 0 0]) ?_ 4 _ rfl;refine qd_ ?_;refine a0g (cs := #[.int .i64 ((a0a l0 a).f0), .int .i64 ((a0a l0 a).f1), .int .i64 ((a0a l0 a).f2), .slice none 0 0, .slice none 0 0]) ?_ 3 _ rfl;refine qd_ ?_;refine a0g (cs := #[.int .i64 ((a0a l0 a).f0), .int .i64 ((a0a l0 a).f1), .int .i64 0, .slice none 0 0, .slice none 0 0]) ?_ 2 _ rfl;refine qd_ ?_;refine a0g (cs := #[.int .i64 ((a0a l0 a).f0), .int .i64 0, .int .i64 0, .slice none 0 0, .slice none 0 0]) ?_ 1 _ rfl;refine qd_ ?_;refine a0g (cs := #[.int .i64 0, .int .i64 0, .int .i64 0, .slice none 0 0, .slice none 0 0]) ?_ 0 _ rfl;refine qd_ ?_;exact r.out⟩,⟨qb_⟩⟩
  subst bF
  replace H := qip_ H
  replace H := bm_ H
  obtain ⟨dn,dp,H⟩ := H
  have fN := am_ dp
  clear dp
  have H' := am_ H
  clear H
  have iI := B.out
  have iJ := b.out
  have iK := D.out
  have iL := c.out
  have iM := P.out
  have iN := d.out
  have iO := W.out
  have iP := j.out
  obtain ⟨dq,dr,dt,du,dv⟩ := qz5_ r;obtain ⟨dw,dx,dy,dz,dA⟩ := qf5_ r
  go_wp2_with (first | (go_at_call 46;(with_reducible refine (a0x.calls k2 _ _ ((a0a l0 a).f4) 1 64 true _ ?s1 bi.out dL.out).mono ?_);(case s1 => exact Kd.a2s bh.out qb_);rintro e w' ⟨rfl,⟨nd,rfl⟩⟩) | (go_at_call 46;(with_reducible refine (a0x.calls k2 _ _ ((a0a l0 a).f3) 1 1000 dn _ ?s1 aM.out fN.out).mono ?_);(case s1 => exact Kd.a2s aL.out qb_);rintro e w' ⟨rfl,⟨nd,rfl⟩⟩))
  go_meet
  case rel => exact ⟨_,(!dn),qs_,H',⟨by have := ae.out;have := aB.out;first | omega | exact Nat.le_refl _⟩,⟨by refine qdj_ ?_ b;refine qdj_ ?_ b;refine qdj_ ?_ b;refine qdj_ ?_ b;refine qdj_ ?_ b;refine qd_ ?_;exact l.out⟩,⟨by refine qd_ ?_;refine a0e ?_ c.out _;refine qd_ ?_;refine a0e ?_ c.out _;refine qd_ ?_;refine a0e ?_ c.out _;refine qd_ ?_;refine a0e ?_ c.out _;refine qd_ ?_;refine a0e ?_ c.out _;refine qd_ ?_;exact p.out⟩,⟨by refine qd_ ?_;refine a0e ?_ d.out _;refine qd_ ?_;refine a0e ?_ d.out _;refine qd_ ?_;refine a0e ?_ d.out _;refine qd_ ?_;refine a0e ?_ d.out _;refine qd_ ?_;refine a0e ?_ d.out _;refine qd_ ?_;exact q.out⟩,⟨by refine qdj_ ?_ j;refine qdj_ ?_ j;refine qdj_ ?_ j;refine qdj_ ?_ j;refine qdj_ ?_ j;refine qd_ ?_;exact m.out⟩,⟨by refine qd_ ?_;refine a0g (cs := #[.int .i64 ((a0a l0 a).f0), .int .i64 ((a0a l0 a).f1), .int .i64 ((a0a l0 a).f2), .slice a1 ((a0a l0 a).f3).length a2, .slice none 0 0]) ?_ 4 _ rfl;refine qd_ ?_;refine a0g (cs := #[.int .i64 ((a0a l0 a).f0), .int .i64 ((a0a l0 a).f1), .int .i64 ((a0a l0 a).f2), .slice none 0 0, .slice none 0 0]) ?_ 3 _ rfl;refine qd_ ?_;refine a0g (cs := #[.int .i64 ((a0a l0 a).f0), .int .i64 ((a0a l0 a).f1), .int .i64 0, .slice none 0 0, .slice none 0 0]) ?_ 2 _ rfl;refine qd_ ?_;refine a0g (cs := #[.int .i64 ((a0a l0 a).f0), .int .i64 0, .int .i64 0, .slice none 0 0, .slice none 0 0]) ?_ 1 _ rfl;refine qd_ ?_;refine a0g (cs := #[.int .i64 0, .int .i64 0, .int .i64 0, .slice none 0 0, .slice none 0 0]) ?_ 0 _ rfl;refine qd_ ?_;exact r.out⟩,⟨qb_⟩⟩
 case rest =>
 clear bH
 try clear c1
 try clear aO
 try clear bq
 try clear br
 try clear ah
 try clear aP
 try clear bb
 try clear bN
 try clear dE
 try clear dF
 try clear am
 try clear bO
 try clear bP
 try clear bQ
 try clear bR
 try clear bS
 try clear bF
 try clear bX bY bZ ca cb
 try clear ap aq ar
 try clear aQ aR
 try clear aU aV
 try clear aY aZ
 try clear b2 b3
 try clear bz bA bB
 try clear cn co cp cq cr
 try clear cy cz cA cB cC
 try clear cI cJ cK cL cM
 try clear cS cT cU cV cW
 try clear d2 d3 d4 d5 d6
 try clear dc dd de df dg
 try clear dq dr dt du dv
 try clear cc cd ce cf cg
 try clear au av aw
 try clear aS aT
 try clear aW aX
 try clear b0 b1
 try clear b4 b5
 try clear bC bD bE
 try clear ct cu cv cw cx
 try clear cD cE cF cG cH
 try clear cN cO cP cQ cR
 try clear cX cY cZ d0 d1
 try clear d7 d8 d9 da db
 try clear dh di dj dk dl
 try clear dw dx dy dz dA
 try clear ai
 try clear ad
 try clear aG
 try clear aH
 try clear aI
 try clear aJ
 try clear aK
 try clear an
 try clear bs
 try clear ao
 try clear bt
 obtain ⟨kq,aC,rfl,HA,dB,l,p,q,m,r,HB⟩ := hcut
 cases kq with
 | zero => exact absurd HA.out (by simp [a0q.j3])
 | succ bI =>
 have H := HA.out
 clear HA
 simp only [a0q.j3] at H
 by_cases bu : aC = true
 ·subst bu
  replace H := qip_ H
  simp only [Option.some.injEq,Prod.mk.injEq] at H
  obtain ⟨rfl,rfl,rfl⟩ := H
  have fO := a5.out
  have fP := z.out
  have fQ := a6.out
  have fR := A.out
  have fS := E.out
  have fT := a3.out
  have fU := b.out
  have fV := B.out
  obtain ⟨ef,eg,eh⟩ := qz3_ l;obtain ⟨ei,ej,ek⟩ := qf3_ l
  go_wp2
  refine bodyPost_ret (a5y rfl _ _ a4 62 #[.slice none 0 0, .map none, .map none] (0,0) _ rfl (by refine qd_ ?_;refine a0g (cs := #[.slice none 0 0, .map none, .map none]) ?_ 2 _ rfl;refine qd_ ?_;refine a0g (cs := #[.slice none 0 0, .map none, .map none]) ?_ 1 _ rfl;refine qd_ ?_;refine a0g (cs := #[.slice none 0 0, .map none, .map none]) ?_ 0 _ rfl;refine qd_ ?_;exact l.out) Try.underlying62 rfl (by kernel_rfl)) rfl ?_
  exact ⟨_,_,_,_,_,by first | rfl | (simp;done) | (simp [*] <;> rfl),fun h_ => absurd h_ (by simp),qb_⟩
 replace bu := be_ bu
 subst bu
 replace H := qin_ H
 by_cases aN : mhas s ((a0a l0 a).f1) = true
 rotate_left
 ·rw [if_neg aN] at H
  have dC : mhas s ((a0a l0 a).f1) = false := by simpa using aN
  clear aN
  simp only [Option.some.injEq,Prod.mk.injEq] at H
  obtain ⟨rfl,rfl,rfl⟩ := H
  have fW := a3.out
  have fX := E.out
  have fY := a7.out
  have fZ := G.out
  have g0 := a8.out
  have g1 := J.out
  have g2 := j.out
  have g3 := W.out
  obtain ⟨el,em,en⟩ := qz3_ m;obtain ⟨eo,ep,eq⟩ := qf3_ m
  have g4 := B.out
  have g5 := b.out
  have g6 := D.out
  have g7 := c.out
  have g8 := P.out
  have g9 := d.out
  obtain ⟨er,es,et,eu,ev⟩ := qz5_ r;obtain ⟨ew,ex,ey,ez,eA⟩ := qf5_ r
  have ga := a5.out
  have gb := z.out
  have gc := a6.out
  have ge := A.out
  obtain ⟨eB,eC,eD⟩ := qz3_ l;obtain ⟨eE,eF,eG⟩ := qf3_ l
  go_wp2_with (first | ((with_reducible refine a0t (N := 99) rfl ?_);(try (refine a3r (by rfl) ?_;dsimp only));refine a8p (enc := V_) rfl (N := 99) rfl rfl (M := s) (k := ((a0a l0 a).f1)) Try.underlying60 Try.underlying3 (a6e _) (qk_ q) rfl ?hx ?_;(case hx => first | rfl | (go_simp;done) | (go_simp;rfl));intro bT))
  refine bodyPost_ret (a5y rfl _ _ a4 62 #[.slice none 0 0, .map none, .map none] (0,0) _ rfl (by refine qd_ ?_;refine a0g (cs := #[.slice none 0 0, .map none, .map none]) ?_ 2 _ rfl;refine qd_ ?_;refine a0g (cs := #[.slice none 0 0, .map none, .map none]) ?_ 1 _ rfl;refine qd_ ?_;refine a0g (cs := #[.slice none 0 0, .map none, .map none]) ?_ 0 _ rfl;refine qd_ ?_;exact l.out) Try.underlying62 rfl (by kernel_rfl)) rfl ?_
  exact ⟨_,_,_,_,_,by first | rfl | (simp;done) | (simp [*] <;> rfl),fun h_ => absurd h_ (by simp),qb_⟩
 rw [if_pos aN] at H
 have dC : mhas s ((a0a l0 a).f1) = true := aN
 clear aN
 replace H := bm_ H
 obtain ⟨dQ,bU,H⟩ := H
 have dD := am_ bU
 clear bU
 by_cases bv : dQ = true
 ·subst bv
  replace H := qip_ H
  simp only [Option.some.injEq,Prod.mk.injEq] at H
  obtain ⟨rfl,rfl,rfl⟩ := H
  have gf := a3.out
  have gg := E.out
  have gh := a7.out
  have gi := G.out
  have gj := a8.out
  have gl := J.out
  have gm := j.out
  have gn := W.out
  obtain ⟨eH,eI,eJ⟩ := qz3_ m;obtain ⟨eK,eL,eM⟩ := qf3_ m
  have go := B.out
  have gp := b.out
  have gq := D.out
  have gr := c.out
  have gs := P.out
  have gt := d.out
  obtain ⟨eN,eO,eP,eQ,eR⟩ := qz5_ r;obtain ⟨eS,eT,eU,eV,eW⟩ := qf5_ r
  go_wp2_with (first | ((with_reducible refine a0t (N := 99) rfl ?_);(try (refine a3r (by rfl) ?_;dsimp only));refine a8p (enc := V_) rfl (N := 99) rfl rfl (M := s) (k := ((a0a l0 a).f1)) Try.underlying60 Try.underlying3 (a6e _) (qk_ q) rfl ?hx ?_;(case hx => first | rfl | (go_simp;done) | (go_simp;rfl));intro bT) | ((with_reducible refine a0r (f := 40) rfl ?_);refine a2a (some 108) rfl rfl Try.func40 (by kernel_rfl) rfl #[.slice a1 ((a0a l0 a).f3).length a2, .func (.func 54) #[] #[.pointer (some ⟨X,0,none⟩)]] rfl ql_ ?_;(with_reducible refine (a1w.calls bI _ _ ((a0a l0 a).f3)  X (some aj) c0 l0 O (a4s l1 s) u v (ixgh l1 V_ s) true _ ?s1 aM.out ?s3 dK.out ?s5 ?s6 ?s7 ?s8 ?s9 ?s10 ?s11 ?s12 dD.out).mono ?_);(case s1 => exact qc_ aL);(case s3 => exact qc_ ch);(case s5 => exact (qk_ m));(case s6 => exact (qk_ p));(case s7 => exact (by rw [b4l];exact (qk_ q)));(case s8 => exact (b2u _ _ _));(case s9 => exact (fun e_ he_ => by obtain ⟨A_,c_,bJ,bK,bL⟩ := b2v HVV.out bM.out _ e_ he_;have HRm_ := am_ bL;exact ⟨A_,c_,bJ,bK,by repeat (first | exact (Kd.a2s HRm_.out HB.out) | (with_reducible refine Kd.a1t ?_ _) | (with_reducible refine Kd.a1u ?_ _) | (with_reducible refine Kd.a2h ?_))⟩));(case s10 => exact a9.out);(case s11 => exact G.out);(case s12 => exact J.out);rintro e w' ⟨rfl,⟨nd,rfl⟩⟩;refine ⟨_,rfl,?_⟩;(try (rw [a6k wc];generalize hq_ : World.drewN wc _ = wc;replace l : Aside0 (wc.heap[a4]? = some (.cells #[.slice none 0 0, .map none, .map none] 62 (0,0))) := ⟨by rw [← hq_];exact (qk_ l)⟩;replace p : Aside0 (wc.heap[u]? = some (a1i (Value.int .i64) O)) := ⟨by rw [← hq_];exact (qk_ p)⟩;replace q : Aside0 (wc.heap[v]? = some (a1i (V_) s)) := ⟨by rw [← hq_];exact (qk_ q)⟩;replace m : Aside0 (wc.heap[X]? = some (.cells #[.slice (some aj) l0.length c0, .map (some u), .map (some v)] 62 (0,0))) := ⟨by rw [← hq_];exact (qk_ m)⟩;replace r : Aside0 (wc.heap[ac]? = some (.cells #[.int .i64 ((a0a l0 a).f0), .int .i64 ((a0a l0 a).f1), .int .i64 ((a0a l0 a).f2), .slice a1 ((a0a l0 a).f3).length a2, .slice ak ((a0a l0 a).f4).length al] 51 (0,0))) := ⟨by rw [← hq_];exact (qk_ r)⟩;replace HB : Aside0 (Below w.heap.size w wc) := ⟨by rw [← hq_];exact qb_⟩;clear hq_));have gu := a5.out;have gv := z.out;have gw := a6.out;have gx := A.out;obtain ⟨eX,eY,eZ⟩ := qz3_ l;obtain ⟨f5,f6,f7⟩ := qf3_ l))
  refine bodyPost_ret (a5y rfl _ _ a4 62 #[.slice none 0 0, .map none, .map none] (0,0) _ rfl (by refine qd_ ?_;refine a0g (cs := #[.slice none 0 0, .map none, .map none]) ?_ 2 _ rfl;refine qd_ ?_;refine a0g (cs := #[.slice none 0 0, .map none, .map none]) ?_ 1 _ rfl;refine qd_ ?_;refine a0g (cs := #[.slice none 0 0, .map none, .map none]) ?_ 0 _ rfl;refine qd_ ?_;exact l.out) Try.underlying62 rfl (by kernel_rfl)) rfl ?_
  exact ⟨_,_,_,_,_,by first | rfl | (simp;done) | (simp [*] <;> rfl),fun h_ => absurd h_ (by simp),qb_⟩
 replace bv := be_ bv
 subst bv
 replace H := qin_ H
 have H' := am_ H
 clear H
 have gy := a3.out
 have gz := E.out
 have gA := a7.out
 have gB := G.out
 have gC := a8.out
 have gD := J.out
 have gE := j.out
 have gF := W.out
 obtain ⟨f8,f9,fa⟩ := qz3_ m;obtain ⟨fb,fc,fd⟩ := qf3_ m
 have gG := B.out
 have gH := b.out
 have gI := D.out
 have gJ := c.out
 have gK := P.out
 have gL := d.out
 obtain ⟨fe,ff,fg,fh,fi⟩ := qz5_ r;obtain ⟨fj,fk,fl,fm,fn⟩ := qf5_ r
 try go_wp2_with (first | ((with_reducible refine a0t (N := 99) rfl ?_);(try (refine a3r (by rfl) ?_;dsimp only));refine a8p (enc := V_) rfl (N := 99) rfl rfl (M := s) (k := ((a0a l0 a).f1)) Try.underlying60 Try.underlying3 (a6e _) (qk_ q) rfl ?hx ?_;(case hx => first | rfl | (go_simp;done) | (go_simp;rfl));intro bT) | ((with_reducible refine a0r (f := 40) rfl ?_);refine a2a (some 108) rfl rfl Try.func40 (by kernel_rfl) rfl #[.slice a1 ((a0a l0 a).f3).length a2, .func (.func 54) #[] #[.pointer (some ⟨X,0,none⟩)]] rfl ql_ ?_;(with_reducible refine (a1w.calls bI _ _ ((a0a l0 a).f3)  X (some aj) c0 l0 O (a4s l1 s) u v (ixgh l1 V_ s) false _ ?s1 aM.out ?s3 dK.out ?s5 ?s6 ?s7 ?s8 ?s9 ?s10 ?s11 ?s12 dD.out).mono ?_);(case s1 => exact qc_ aL);(case s3 => exact qc_ ch);(case s5 => exact (qk_ m));(case s6 => exact (qk_ p));(case s7 => exact (by rw [b4l];exact (qk_ q)));(case s8 => exact (b2u _ _ _));(case s9 => exact (fun e_ he_ => by obtain ⟨A_,c_,bJ,bK,bL⟩ := b2v HVV.out bM.out _ e_ he_;have HRm_ := am_ bL;exact ⟨A_,c_,bJ,bK,by repeat (first | exact (Kd.a2s HRm_.out HB.out) | (with_reducible refine Kd.a1t ?_ _) | (with_reducible refine Kd.a1u ?_ _) | (with_reducible refine Kd.a2h ?_))⟩));(case s10 => exact a9.out);(case s11 => exact G.out);(case s12 => exact J.out);rintro e w' ⟨rfl,⟨nd,rfl⟩⟩;refine ⟨_,rfl,?_⟩))
 (try (rw [a6k wc];generalize hq_ : World.drewN wc _ = wc;replace l : Aside0 (wc.heap[a4]? = some (.cells #[.slice none 0 0, .map none, .map none] 62 (0,0))) := ⟨by rw [← hq_];exact (qk_ l)⟩;replace p : Aside0 (wc.heap[u]? = some (a1i (Value.int .i64) O)) := ⟨by rw [← hq_];exact (qk_ p)⟩;replace q : Aside0 (wc.heap[v]? = some (a1i (V_) s)) := ⟨by rw [← hq_];exact (qk_ q)⟩;replace m : Aside0 (wc.heap[X]? = some (.cells #[.slice (some aj) l0.length c0, .map (some u), .map (some v)] 62 (0,0))) := ⟨by rw [← hq_];exact (qk_ m)⟩;replace r : Aside0 (wc.heap[ac]? = some (.cells #[.int .i64 ((a0a l0 a).f0), .int .i64 ((a0a l0 a).f1), .int .i64 ((a0a l0 a).f2), .slice a1 ((a0a l0 a).f3).length a2, .slice ak ((a0a l0 a).f4).length al] 51 (0,0))) := ⟨by rw [← hq_];exact (qk_ r)⟩;replace HB : Aside0 (Below w.heap.size w wc) := ⟨by rw [← hq_];exact qb_⟩;clear hq_))
 replace l := am_ (bd_ l.out)
 replace p := am_ (bd_ p.out)
 replace q := am_ (bd_ q.out)
 replace m := am_ (bd_ m.out)
 replace r := am_ (bd_ r.out)
 replace HB := am_ (ld_ HB.out)
 refine a4l (n := 9) (S := fun w' => w'.cell? ⟨X,0,none⟩ = some (.slice (some aj) l0.length c0) ∧ w'.cell? ⟨X,1,none⟩ = some (.map (some u)) ∧ w'.cell? ⟨X,2,none⟩ = some (.map (some v)) ∧ w'.cell? ⟨ac,0,none⟩ = some (.int .i64 ((a0a l0 a).f0)) ∧ w'.cell? ⟨ac,1,none⟩ = some (.int .i64 ((a0a l0 a).f1)) ∧ w'.cell? ⟨ac,2,none⟩ = some (.int .i64 ((a0a l0 a).f2)) ∧ w'.cell? ⟨ac,3,none⟩ = some (.slice a1 ((a0a l0 a).f3).length a2) ∧ w'.cell? ⟨ac,4,none⟩ = some (.slice ak ((a0a l0 a).f4).length al)) (ds := []) #[I,I,I,I,I,I,I,I,I] (by kernel_rfl) rfl rfl ⟨(bc_ m.out 0).trans rfl,(bc_ m.out 1).trans rfl,(bc_ m.out 2).trans rfl,(bc_ r.out 0).trans rfl,(bc_ r.out 1).trans rfl,(bc_ r.out 2).trans rfl,(bc_ r.out 3).trans rfl,(bc_ r.out 4).trans rfl⟩ (fun hHeld => ?_);refine a3s a0q.c2j a0q.c1s (fun HT_ HW_ => ?_)
 generalize wc.drew = iZ at l p q m r HB hHeld ⊢
 refine qpu_ 0 (some 110) #[U,I,I,I,I,I,I,I,I] ?_
 refine qpu_ 2 (some 112) #[U,I,U,I,I,I,I,I,I] ?_
 refine qpu_ 4 (some 114) #[U,I,U,I,U,I,I,I,I] ?_
 refine qpu_ 5 (some 115) #[U,I,U,I,U,U,I,I,I] ?_
 refine b6l 1 (some 111) #[U,U,U,I,U,U,I,I,I] hHeld ?_
 refine b6l 3 (some 113) #[U,U,U,U,U,U,I,I,I] hHeld ?_
 refine b6l 6 (some 116) #[U,U,U,U,U,U,U,I,I] hHeld ?_
 refine one_ (i := 7) (N := none) #[U,U,U,U,U,U,U,U,I] rfl rfl (a4m HT_.out (by kernel_rfl)) (by decide) (fun K hK => ?_)
 refine b3m (by rfl) rfl (M := O) (k := ((a0a l0 a).f0)) (y := a) Try.underlying59 Try.underlying3 (qk_ p) rfl ?hx ?hv ?_;(case hx => first | rfl | (go_simp;done) | (go_simp;rfl));(case hv => first | rfl | (go_simp;done) | (go_simp;rfl))
 intro j5 hM hg
 replace l := am_ (a4k (g := a4) (o := .cells #[.slice none 0 0, .map none, .map none] 62 (0,0)) (qk_ l) hg (fun h_ => a5.out (si_ h_)))
 replace p := am_ (hM)
 replace q := am_ (a4k (g := v) (o := a1i (V_) s) (qk_ q) hg (fun h_ => bw.out (si_ h_)))
 replace m := am_ (a4k (g := X) (o := .cells #[.slice (some aj) l0.length c0, .map (some u), .map (some v)] 62 (0,0)) (qk_ m) hg (fun h_ => a7.out (si_ h_)))
 replace r := am_ (a4k (g := ac) (o := .cells #[.int .i64 ((a0a l0 a).f0), .int .i64 ((a0a l0 a).f1), .int .i64 ((a0a l0 a).f2), .slice a1 ((a0a l0 a).f3).length a2, .slice ak ((a0a l0 a).f4).length al] 51 (0,0)) (qk_ r) hg (fun h_ => D.out (si_ h_)))
 replace HB := am_ (b0g qb_ hg bo.out)
 clear hg hM
 refine hK.out _ _ ⟨(bc_ m.out 0).trans rfl,(bc_ m.out 1).trans rfl,(bc_ m.out 2).trans rfl,(bc_ r.out 0).trans rfl,(bc_ r.out 1).trans rfl,(bc_ r.out 2).trans rfl,(bc_ r.out 3).trans rfl,(bc_ r.out 4).trans rfl⟩ (fun hHeld => ?_)
 clear hK K
 refine qpu_ 8 (some 7) #[U,U,U,U,U,U,U,U,U] ?_
 refine a4u (a4c HT_.out (by kernel_rfl)) ?_
 try go_wp2
 go_roundg bI
 case measure => have := ae.out;have := aB.out;have := dB.out;omega
 case rel => exact ⟨(((a0a l0 a).f0)),(wrap64 (a + 1)),(mput O ((a0a l0 a).f0) a),qs_,qs_,H',⟨by have := ae.out;have := aB.out;have := dB.out;omega⟩,⟨qk_ l⟩,⟨qk_ p⟩,⟨qk_ q⟩,⟨qk_ m⟩,⟨qb_⟩⟩
end Go.Proofs.Ytheibjkjmkanoaa.Px
