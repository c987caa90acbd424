/- Contracts of Go functions, printed. Conditions: as each theorem states. -/
import Derived.Test.YtheibjkjmkanoaaPx0
import Derived.Test.YtheibjkjmkanoaaPx23
import Derived.Test.YtheibjkjmkanoaaPx24
import Derived.Test.YtheibjkjmkanoaaPx26
import Derived.Test.YtheibjkjmkanoaaPx28
namespace Go.Proofs.Ytheibjkjmkanoaa.Px
open Go.Proofs.Ytheibjkjmkanoaa.Given
open Go.RowKit Go.Proofs.YtheibjkjmkanoaaW.PrintWords Go.Proofs.YtheibjkjmkanoaaW.PrintLast Go.Proofs.YtheibjkjmkanoaaW.PrintMore
attribute [local go_sem] a3r a3s a4e a4f a3k a3l a3t a3u
set_option linter.unusedVariables false
set_option linter.unusedSimpArgs false
mutual
def a0d.j0 : Nat → List (S51) → List (S58) → List (S42) → Bool → Option (Int)
 | 0,_,_,_,_ => none
 | k + 1,x0,x1,x2,a => if a = true then (some 1) else (a0d.l0 k x0 x1 x2 0)
def a0d.l0 : Nat → List (S51) → List (S58) → List (S42) → Int → Option (Int)
 | 0,_,_,_,_ => none
 | k + 1,x0,x1,x2,x9 => if x9 < (x2.length : Int) then (if 0 ≤ x9 then (if x9 < (x0.length : Int) then (if ((a0b x2 x9).f1) < 0 then (a0d.j2 k x0 x1 x2 x9 true ((a0a x0 x9).f0) ((a0a x0 x9).f1) ((a0a x0 x9).f2) ((a0a x0 x9).f3) ((a0a x0 x9).f4) ((a0b x2 x9).f0) ((a0b x2 x9).f1) ((a0b x2 x9).f2)) else (if ((a0b x2 x9).f1) > 36524 then (a0d.j2 k x0 x1 x2 x9 true ((a0a x0 x9).f0) ((a0a x0 x9).f1) ((a0a x0 x9).f2) ((a0a x0 x9).f3) ((a0a x0 x9).f4) ((a0b x2 x9).f0) ((a0b x2 x9).f1) ((a0b x2 x9).f2)) else (a0d.j2 k x0 x1 x2 x9 (((a0b x2 x9).f2) != (wrap64 (((a0b x2 x9).f1) + ((a0a x0 x9).f2)))) ((a0a x0 x9).f0) ((a0a x0 x9).f1) ((a0a x0 x9).f2) ((a0a x0 x9).f3) ((a0a x0 x9).f4) ((a0b x2 x9).f0) ((a0b x2 x9).f1) ((a0b x2 x9).f2)))) else (none)) else (none)) else (some 0)
def a0d.j2 : Nat → List (S51) → List (S58) → List (S42) → Int → Bool → Int → Int → Int → List Int → List Int → Int → Int → Int → Option (Int)
 | 0,_,_,_,_,_,_,_,_,_,_,_,_,_ => none
 | k + 1,x0,x1,x2,x9,c,u0,u1,u2,u3,u4,u5,u6,u7 => if c = true then (some 3) else ((a1v.f k x1 u1).bind fun a => ((a2b.f k a.1 u6 u7).bind fun b => (if b = true then (a0d.l1 k x0 x1 x2 x9 0 u0 u1 u2 u3 u4 u5 u6 u7) else (some 6))))
def a0d.l1 : Nat → List (S51) → List (S58) → List (S42) → Int → Int → Int → Int → Int → List Int → List Int → Int → Int → Int → Option (Int)
 | 0,_,_,_,_,_,_,_,_,_,_,_,_,_ => none
 | k + 1,x0,x1,x2,x9,b,u0,u1,u2,u3,u4,u5,u6,u7 => if b < (u3.length : Int) then (if 0 ≤ b then ((a1m.f k x0 x9 (rd u3 b)).bind fun a => (if 0 ≤ a then (if a < (x2.length : Int) then (if u6 < ((a0b x2 a).f2) then (some 21) else (a0d.l1 k x0 x1 x2 x9 (wrap64 (b + 1)) u0 u1 u2 u3 u4 u5 u6 u7)) else (none)) else (none))) else (none)) else (if 0 ≤ x9 then (if x9 ≤ (x2.length : Int) then ((a0o.f k x0 x9 u6 u7 (x2.take (x9 : Int).toNat)).bind fun c => (if c = true then (some 22) else (a0d.l0 k x0 x1 x2 (wrap64 (x9 + 1))))) else (none)) else (none))
end
def a0d.f (k : Nat) (l0 : List (S51)) (l1 : List (S58)) (l2 : List (S42)) : Option (Int) := (a0c.f k l0 l1).bind fun a => ((a2d.f k l0 l2).bind fun b => (if a = true then (a0d.j0 k l0 l1 l2 (!b)) else (a0d.j0 k l0 l1 l2 true)))
theorem a0d.a1t : ∀ k,(∀ y0 y1 y2 y3,LeO (a0d.j0 k y0 y1 y2 y3) (a0d.j0 (k + 1) y0 y1 y2 y3)) ∧ (∀ y0 y1 y2 y3,LeO (a0d.l0 k y0 y1 y2 y3) (a0d.l0 (k + 1) y0 y1 y2 y3)) ∧ (∀ y0 y1 y2 y3 y4 y5 y6 y7 y8 y9 a b c,LeO (a0d.j2 k y0 y1 y2 y3 y4 y5 y6 y7 y8 y9 a b c) (a0d.j2 (k + 1) y0 y1 y2 y3 y4 y5 y6 y7 y8 y9 a b c)) ∧ (∀ y0 y1 y2 y3 y4 y5 y6 y7 y8 y9 a b c,LeO (a0d.l1 k y0 y1 y2 y3 y4 y5 y6 y7 y8 y9 a b c) (a0d.l1 (k + 1) y0 y1 y2 y3 y4 y5 y6 y7 y8 y9 a b c))
 | 0 => ⟨fun _ _ _ _ r h => by simp [a0d.j0] at h,fun _ _ _ _ r h => by simp [a0d.l0] at h,fun _ _ _ _ _ _ _ _ _ _ _ _ _ r h => by simp [a0d.j2] at h,fun _ _ _ _ _ _ _ _ _ _ _ _ _ r h => by simp [a0d.l1] at h⟩
 | k + 1 => by
  obtain ⟨d,e,g,i⟩ := a0d.a1t k
  refine ⟨?_,?_,?_,?_⟩ <;> intros <;> (first | unfold a0d.j0 | unfold a0d.l0 | unfold a0d.j2 | unfold a0d.l1) <;> with_reducible (repeat' first | apply d | apply e | apply g | apply i | apply a1m.mono | apply a0c.mono | apply a0o.mono | apply a1v.mono | apply a2d.mono | apply a2b.mono | apply LeO.refl | apply LeO.none | apply LeO.ite | refine LeO.bind ?_ (fun _ => ?_))
theorem a0d.mono : ∀ a0 a1 a2 k,LeO (a0d.f k a0 a1 a2) (a0d.f (k + 1) a0 a1 a2) := by
 intro a0 a1 a2 k
 obtain ⟨a,b,c,d⟩ := a0d.a1t k
 unfold a0d.f
 with_reducible (repeat' first | apply a | apply b | apply c | apply d | apply a1m.mono | apply a0c.mono | apply a0o.mono | apply a1v.mono | apply a2d.mono | apply a2b.mono | apply LeO.refl | apply LeO.none | apply LeO.ite | refine LeO.bind ?_ (fun _ => ?_))
def a0d.T19 : Bool × List (List Nat × List Nat) := (true,[([],[]),([0],[0]),([],[]),([],[]),([],[]),([],[]),([5],[5]),([],[]),([6,7],[6,7]),([8],[8]),([3,4,9],[3,4,9]),([2,10],[2,10]),([11],[11]),([12],[12]),([1,13],[1,13])])
def a0d.B19 : List Nat := [0,1,0,0,0,0,32,0,224,480,1016,2044,4092,8188,16383]
theorem a0d.c2o : rtab .any (opsOf Try.f18 19) = a0d.T19 := by kernel_rfl
theorem a0d.c0l : a5l a0d.T19.2 a0d.B19 = true := by kernel_rfl
def a0d.T21 : Bool × List (List Nat × List Nat) := (true,[([],[]),([],[]),([],[]),([2],[2]),([],[]),([4],[4]),([],[]),([],[]),([6,7],[6,7]),([0,1,3,5,8],[0,1,3,5,8]),([9,9,0,1,2,3,4,5,6,7,8,9],[9])])
def a0d.B21 : List Nat := [0,0,0,4,0,16,0,0,192,511,1023]
theorem a0d.b5k : rtab .any (opsOf Try.f18 21) = a0d.T21 := by kernel_rfl
theorem a0d.b3m : a5l a0d.T21.2 a0d.B21 = true := by kernel_rfl
set_option maxHeartbeats 8000000 in
set_option maxRecDepth 100000 in
theorem a0d.calls (k : Nat) (A0 : Option Addr) (c0 : Nat) (l0 : List (S51)) (A1 : Option Addr) (c1 : Nat) (l1 : List (S58)) (A2 : Option Addr) (c2 : Nat) (l2 : List (S42)) (r : Int) (w : World) (cF : Kd.C k51 w A0 l0.length l0) (cG : l0.length ≤ c0) (cH : Kd.C k58 w A1 l1.length l1) (cI : l1.length ≤ c1) (cJ : Kd.C k42 w A2 l2.length l2) (cK : l2.length ≤ c2) (h : a0d.f k l0 l1 l2 = some r) :
  Calls Try.prog 18 #[.slice A0 l0.length c0, .slice A1 l1.length c1, .slice A2 l2.length c2] w fun e w' => e = .returned (.int .i64 r) ∧ Below w.heap.size w w' := by
 have ew := Try.underlying51
 have ex := Try.underlying42
 have ao := am_ cF
 have ax := am_ cG
 clear cF cG
 have bU := am_ cH
 have bV := am_ cI
 clear cH cI
 have ay := am_ cJ
 have bW := am_ cK
 clear cJ cK
 have HB := am_ (Below.refl w.heap.size w)
 have H : ((a0c.f k l0 l1).bind fun aI => ((a2d.f k l0 l2).bind fun aJ => (if aI = true then (a0d.j0 k l0 l1 l2 (!aJ)) else (a0d.j0 k l0 l1 l2 true)))) = some r := h
 clear h
 replace H := bm_ H
 obtain ⟨aI,cL,H⟩ := H
 have A4 := am_ cL
 clear cL
 replace H := bm_ H
 obtain ⟨aJ,cM,H⟩ := H
 have A5 := am_ cM
 clear cM
 have bX := am_ H
 clear H
 go_enter Try.func18,Try.ntmps18
 go_upto_region 3 with (first | ((with_reducible refine a0i (f := 15) rfl ?_);refine a1i (some 19) rfl rfl Try.func15 (by kernel_rfl) rfl #[.slice A0 l0.length c0, .slice A1 l1.length c1] rfl ql_ ?_;(with_reducible refine (a0c.calls k _ _ l0 _ _ l1 aI _ ?s1 ax.out ?s3 bV.out A4.out).mono ?_);(case s1 => repeat (first | exact ao.out | (with_reducible refine Kd.a1b ?_ _) | (with_reducible refine Kd.a1c ?_ _) | (with_reducible refine Kd.a1k ?_)));(case s3 => repeat (first | exact bU.out | (with_reducible refine Kd.a1b ?_ _) | (with_reducible refine Kd.a1c ?_ _) | (with_reducible refine Kd.a1k ?_)));rintro e w7 ⟨rfl,hb⟩;refine ⟨_,rfl,?_⟩;replace HB := qbs_ hb;(try clear hb);(try clear bM);(try clear hk);(try clear hi)) | ((with_reducible refine a0i (f := 43) rfl ?_);refine a1i (some 22) rfl rfl Try.func43 (by kernel_rfl) rfl #[.slice A0 l0.length c0, .slice A2 l2.length c2] rfl ql_ ?_;(with_reducible refine (a2d.calls k _ _ l0 _ _ l2 aJ _ ?s1 ax.out ?s3 bW.out A5.out).mono ?_);(case s1 => exact qc_ ao);(case s3 => exact qc_ ay);rintro e w' ⟨rfl,⟨nd,rfl⟩⟩;refine ⟨_,rfl,?_⟩))
 (try simp only [Act.put,List.setIfInBounds_toArray,List.set_cons_zero,List.set_cons_succ])
 go_cut [28] (fun d4 wc => ∃ (kq : Nat) (al : Bool),d4 = .bool al ∧ Aside0 (a0d.j0 kq l0 l1 l2 al = some r) ∧ Aside0 (kq ≤ k) ∧ Aside0 (Below w.heap.size w wc))
 case first =>
  have H := bX.out
  clear bX
  by_cases c8 : aI = true
  ·subst c8
   replace H := qip_ H
   have H' := am_ H
   clear H
   go_wp2
   go_meet
   case rel => exact ⟨_,(!aJ),qs_,H',⟨qo_⟩,⟨qb_⟩⟩
  replace c8 := be_ c8
  subst c8
  replace H := qin_ H
  have H' := am_ H
  clear H
  go_wp2
  go_meet
  case rel => exact ⟨_,(true),qs_,H',⟨qo_⟩,⟨qb_⟩⟩
 case rest =>
 clear bX
 try clear c1
 try clear c2
 try clear c8
 obtain ⟨kq,al,rfl,HA,ap,HB⟩ := hcut
 cases kq with
 | zero => exact absurd HA.out (by simp [a0d.j0])
 | succ cN =>
 have H := HA.out
 clear HA
 simp only [a0d.j0] at H
 by_cases c9 : al = true
 ·subst c9
  replace H := qip_ H
  obtain rfl := si_ H
  go_wp2
  go_ret
  exact ⟨qx_,qb_⟩
 replace c9 := be_ c9
 subst c9
 replace H := qin_ H
 have H' := am_ H
 clear H
 go_wp2
 go_loopg [9] cN (fun kq v9 w' => ∃ (a : Int),v9 = .int .i64 a ∧ Aside0 (a0d.l0 kq l0 l1 l2 a = some r) ∧ Aside0 (kq ≤ cN) ∧ Aside0 (Below w.heap.size w w'))
 case atStart => exact ⟨(0),qs_,H',⟨Nat.le_refl _⟩,⟨qb_⟩⟩
 case round =>
 clear H'
 try clear c1
 try clear c2
 try clear c8
 try clear c9
 obtain ⟨a,rfl,HA,aq,HB⟩ := hrel
 cases gk with
 | zero => exact absurd HA.out (by simp [a0d.l0])
 | succ k2 =>
 have H := HA.out
 clear HA
 simp only [a0d.l0] at H
 by_cases c10 : a < (l2.length : Int)
 rotate_left
 ·rw [if_neg c10] at H
  have aK : decide (a < (l2.length : Int)) = false := decide_eq_false c10
  clear c10
  obtain rfl := si_ H
  go_wp2
  go_ret
  exact ⟨qx_,qb_⟩
 rw [if_pos c10] at H
 have aK : decide (a < (l2.length : Int)) = true := decide_eq_true c10
 clear c10
 obtain ⟨bN,H⟩ := qid_ H
 obtain ⟨bO,H⟩ := qid_ H
 have bD := am_ H
 clear H
 have ar : 0 ≤ (a : Int) := ot_
 have au : a < (l0.length : Int) := ot_
 obtain ⟨am,A,z,B,D,cS,a2,a3,a4,a5,a6,az,aA,aB,aC⟩ := a4i ao.out a ar au
 cases cS
 replace a2 := qh_ HB a2
 replace a3 := qh_ HB a3
 replace a4 := qh_ HB a4
 replace a5 := qh_ HB a5
 replace a6 := qh_ HB a6
 have aD := am_ aA
 have d1 := am_ az
 clear aA az
 have d2 := am_ aC
 have d3 := am_ aB
 clear aC aB
 replace ar := eq_true ar
 replace au := eq_true au
 go_upto_region 10 with (first | ((with_reducible refine a1d (N := 10) rfl ?_);refine qev_ 10 #[.int .i64 0, .int .i64 0, .int .i64 0, .slice none 0 0, .slice none 0 0] 51 ?_;intro d hg eC hbox hb;have b := am_ (hbox);have U := qga_ hg;have e3 := qga_ hg;replace HB := qbs_ hb;clear hb hbox hg;obtain ⟨aP,aQ,aR,aS,aT⟩ := qz5_ b;obtain ⟨aU,aV,aW,aX,aY⟩ := qf5_ b;have av : 0 ≤ (a : Int) := ot_;have aw : a < (l2.length : Int) := ot_;obtain ⟨q,cT,l,u,v⟩ := a3o ay.out a av aw;cases cT;have a7 : q.block ≠ d := Nat.ne_of_lt (Nat.lt_of_lt_of_le (by have := World.block_lt_of_cell? _ _ l;first | rwa [add_block] at this | exact this) U.out);have a8 : q.block ≠ d := Nat.ne_of_lt (Nat.lt_of_lt_of_le (by have := World.block_lt_of_cell? _ _ l;first | rwa [add_block] at this | exact this) U.out);have a9 : q.block ≠ d := Nat.ne_of_lt (Nat.lt_of_lt_of_le (by have := World.block_lt_of_cell? _ _ l;first | rwa [add_block] at this | exact this) U.out);have aa : q.block ≠ d := Nat.ne_of_lt (Nat.lt_of_lt_of_le (by have := World.block_lt_of_cell? _ _ l;first | rwa [add_block] at this | exact this) U.out);have ab : q.block ≠ d := Nat.ne_of_lt (Nat.lt_of_lt_of_le (by have := World.block_lt_of_cell? _ _ l;first | rwa [add_block] at this | exact this) U.out);replace l := qh_ HB l;replace u := qh_ HB u;replace v := qh_ HB v;replace l := (cell_far (p := ⟨d,0,none⟩) (qn_ a7) (.int .i64 ((a0a l0 a).f0))).trans l;replace u := (cell_far (p := ⟨d,0,none⟩) (qn_ a7) (.int .i64 ((a0a l0 a).f0))).trans u;replace v := (cell_far (p := ⟨d,0,none⟩) (qn_ a7) (.int .i64 ((a0a l0 a).f0))).trans v;replace l := (cell_far (p := ⟨d,1,none⟩) (qn_ a8) (.int .i64 ((a0a l0 a).f1))).trans l;replace u := (cell_far (p := ⟨d,1,none⟩) (qn_ a8) (.int .i64 ((a0a l0 a).f1))).trans u;replace v := (cell_far (p := ⟨d,1,none⟩) (qn_ a8) (.int .i64 ((a0a l0 a).f1))).trans v;replace l := (cell_far (p := ⟨d,2,none⟩) (qn_ a9) (.int .i64 ((a0a l0 a).f2))).trans l;replace u := (cell_far (p := ⟨d,2,none⟩) (qn_ a9) (.int .i64 ((a0a l0 a).f2))).trans u;replace v := (cell_far (p := ⟨d,2,none⟩) (qn_ a9) (.int .i64 ((a0a l0 a).f2))).trans v;replace l := (cell_far (p := ⟨d,3,none⟩) (qn_ aa) (.slice A ((a0a l0 a).f3).length z)).trans l;replace u := (cell_far (p := ⟨d,3,none⟩) (qn_ aa) (.slice A ((a0a l0 a).f3).length z)).trans u;replace v := (cell_far (p := ⟨d,3,none⟩) (qn_ aa) (.slice A ((a0a l0 a).f3).length z)).trans v;replace l := (cell_far (p := ⟨d,4,none⟩) (qn_ ab) (.slice B ((a0a l0 a).f4).length D)).trans l;replace u := (cell_far (p := ⟨d,4,none⟩) (qn_ ab) (.slice B ((a0a l0 a).f4).length D)).trans u;replace v := (cell_far (p := ⟨d,4,none⟩) (qn_ ab) (.slice B ((a0a l0 a).f4).length D)).trans v;clear a7 a8 a9 aa ab;replace av := eq_true av;replace aw := eq_true aw) | ((with_reducible refine a1d (N := 11) rfl ?_);refine qev_ 11 #[.int .i64 0, .int .i64 0, .int .i64 0] 42 ?_;intro x hg eD hbox hb;have c := am_ (hbox);have bP := qga_ hg;have e4 := qga_ hg;replace HB := qbs_ hb;have j := am_ ((by rw [hg];exact Nat.ne_of_lt (a4c (g := d) (o := .cells #[.int .i64 ((a0a l0 a).f0), .int .i64 ((a0a l0 a).f1), .int .i64 ((a0a l0 a).f2), .slice A ((a0a l0 a).f3).length z, .slice B ((a0a l0 a).f4).length D] 51 (0,0)) (by refine qd_ ?_;refine a0j (cs := #[.int .i64 ((a0a l0 a).f0), .int .i64 ((a0a l0 a).f1), .int .i64 ((a0a l0 a).f2), .slice A ((a0a l0 a).f3).length z, .slice none 0 0]) ?_ 4 _ rfl;refine qd_ ?_;refine a0j (cs := #[.int .i64 ((a0a l0 a).f0), .int .i64 ((a0a l0 a).f1), .int .i64 ((a0a l0 a).f2), .slice none 0 0, .slice none 0 0]) ?_ 3 _ rfl;refine qd_ ?_;refine a0j (cs := #[.int .i64 ((a0a l0 a).f0), .int .i64 ((a0a l0 a).f1), .int .i64 0, .slice none 0 0, .slice none 0 0]) ?_ 2 _ rfl;refine qd_ ?_;refine a0j (cs := #[.int .i64 ((a0a l0 a).f0), .int .i64 0, .int .i64 0, .slice none 0 0, .slice none 0 0]) ?_ 1 _ rfl;refine qd_ ?_;refine a0j (cs := #[.int .i64 0, .int .i64 0, .int .i64 0, .slice none 0 0, .slice none 0 0]) ?_ 0 _ rfl;refine qd_ ?_;exact b.out)) : d ≠ x));have y := am_ ((by rw [hg];exact Nat.ne_of_gt (a4c (g := d) (o := .cells #[.int .i64 ((a0a l0 a).f0), .int .i64 ((a0a l0 a).f1), .int .i64 ((a0a l0 a).f2), .slice A ((a0a l0 a).f3).length z, .slice B ((a0a l0 a).f4).length D] 51 (0,0)) (by refine qd_ ?_;refine a0j (cs := #[.int .i64 ((a0a l0 a).f0), .int .i64 ((a0a l0 a).f1), .int .i64 ((a0a l0 a).f2), .slice A ((a0a l0 a).f3).length z, .slice none 0 0]) ?_ 4 _ rfl;refine qd_ ?_;refine a0j (cs := #[.int .i64 ((a0a l0 a).f0), .int .i64 ((a0a l0 a).f1), .int .i64 ((a0a l0 a).f2), .slice none 0 0, .slice none 0 0]) ?_ 3 _ rfl;refine qd_ ?_;refine a0j (cs := #[.int .i64 ((a0a l0 a).f0), .int .i64 ((a0a l0 a).f1), .int .i64 0, .slice none 0 0, .slice none 0 0]) ?_ 2 _ rfl;refine qd_ ?_;refine a0j (cs := #[.int .i64 ((a0a l0 a).f0), .int .i64 0, .int .i64 0, .slice none 0 0, .slice none 0 0]) ?_ 1 _ rfl;refine qd_ ?_;refine a0j (cs := #[.int .i64 0, .int .i64 0, .int .i64 0, .slice none 0 0, .slice none 0 0]) ?_ 0 _ rfl;refine qd_ ?_;exact b.out)) : x ≠ d));replace b := am_ (a2w (g := d) (o := .cells #[.int .i64 ((a0a l0 a).f0), .int .i64 ((a0a l0 a).f1), .int .i64 ((a0a l0 a).f2), .slice A ((a0a l0 a).f3).length z, .slice B ((a0a l0 a).f4).length D] 51 (0,0)) (by refine qd_ ?_;refine a0j (cs := #[.int .i64 ((a0a l0 a).f0), .int .i64 ((a0a l0 a).f1), .int .i64 ((a0a l0 a).f2), .slice A ((a0a l0 a).f3).length z, .slice none 0 0]) ?_ 4 _ rfl;refine qd_ ?_;refine a0j (cs := #[.int .i64 ((a0a l0 a).f0), .int .i64 ((a0a l0 a).f1), .int .i64 ((a0a l0 a).f2), .slice none 0 0, .slice none 0 0]) ?_ 3 _ rfl;refine qd_ ?_;refine a0j (cs := #[.int .i64 ((a0a l0 a).f0), .int .i64 ((a0a l0 a).f1), .int .i64 0, .slice none 0 0, .slice none 0 0]) ?_ 2 _ rfl;refine qd_ ?_;refine a0j (cs := #[.int .i64 ((a0a l0 a).f0), .int .i64 0, .int .i64 0, .slice none 0 0, .slice none 0 0]) ?_ 1 _ rfl;refine qd_ ?_;refine a0j (cs := #[.int .i64 0, .int .i64 0, .int .i64 0, .slice none 0 0, .slice none 0 0]) ?_ 0 _ rfl;refine qd_ ?_;exact b.out) hb);clear hb hbox hg;have e5 := y.out;have e6 := j.out;obtain ⟨aZ,b0,b1⟩ := qz3_ c;obtain ⟨b2,b3,b4⟩ := qf3_ c))
 (try simp only [Act.put,List.setIfInBounds_toArray,List.set_cons_zero,List.set_cons_succ])
 go_cut [60] (fun d5 wc => ∃ (kq : Nat) (ah : Bool),d5 = .bool ah ∧ Aside0 (a0d.j2 kq l0 l1 l2 a ah ((a0a l0 a).f0) ((a0a l0 a).f1) ((a0a l0 a).f2) ((a0a l0 a).f3) ((a0a l0 a).f4) ((a0b l2 a).f0) ((a0b l2 a).f1) ((a0b l2 a).f2) = some r) ∧ Aside0 (kq ≤ k2) ∧ Aside0 (wc.heap[d]? = some (.cells #[.int .i64 ((a0a l0 a).f0), .int .i64 ((a0a l0 a).f1), .int .i64 ((a0a l0 a).f2),(.slice A ((a0a l0 a).f3).length z),(.slice B ((a0a l0 a).f4).length D)] 51 (0,0))) ∧ Aside0 (wc.heap[x]? = some (.cells #[.int .i64 ((a0b l2 a).f0), .int .i64 ((a0b l2 a).f1), .int .i64 ((a0b l2 a).f2)] 42 (0,0))) ∧ Aside0 (Below w.heap.size w wc))
 case first =>
  have H := bD.out
  clear bD
  by_cases aE : ((a0b l2 a).f1) < 0
  ·rw [if_pos aE] at H
   have W : decide (((a0b l2 a).f1) < 0) = true := decide_eq_true aE
   clear aE
   (first | rw [W] | (simp only [a4m,a4v];rw [W]) | skip)
   have H' := am_ H
   clear H
   have e7 := y.out
   have e8 := j.out
   obtain ⟨b5,b6,b7⟩ := qz3_ c;obtain ⟨b8,b9,ba⟩ := qf3_ c
   go_wp2
   go_meet
   case rel => exact ⟨_,(true),qs_,H',⟨by have := ap.out;have := aq.out;first | omega | exact Nat.le_refl _⟩,⟨by refine qdj_ ?_ j;refine qdj_ ?_ j;refine qdj_ ?_ j;refine qd_ ?_;exact b.out⟩,⟨by refine qd_ ?_;refine a0j (cs := #[.int .i64 ((a0b l2 a).f0), .int .i64 ((a0b l2 a).f1), .int .i64 0]) ?_ 2 _ rfl;refine qd_ ?_;refine a0j (cs := #[.int .i64 ((a0b l2 a).f0), .int .i64 0, .int .i64 0]) ?_ 1 _ rfl;refine qd_ ?_;refine a0j (cs := #[.int .i64 0, .int .i64 0, .int .i64 0]) ?_ 0 _ rfl;refine qd_ ?_;exact c.out⟩,⟨qb_⟩⟩
  rw [if_neg aE] at H
  have W : decide (((a0b l2 a).f1) < 0) = false := decide_eq_false aE
  clear aE
  (first | rw [W] | (simp only [a4m,a4v];rw [W]) | skip)
  by_cases aF : ((a0b l2 a).f1) > 36524
  ·rw [if_pos aF] at H
   have aL : decide (36524 < ((a0b l2 a).f1)) = true := decide_eq_true aF
   clear aF
   have H' := am_ H
   clear H
   have e9 := y.out
   have ea := j.out
   obtain ⟨bb,bc,bd⟩ := qz3_ c;obtain ⟨be,bf,bg⟩ := qf3_ c
   go_wp2
   go_meet
   case rel => exact ⟨_,(true),qs_,H',⟨by have := ap.out;have := aq.out;first | omega | exact Nat.le_refl _⟩,⟨by refine qdj_ ?_ j;refine qdj_ ?_ j;refine qdj_ ?_ j;refine qd_ ?_;exact b.out⟩,⟨by refine qd_ ?_;refine a0j (cs := #[.int .i64 ((a0b l2 a).f0), .int .i64 ((a0b l2 a).f1), .int .i64 0]) ?_ 2 _ rfl;refine qd_ ?_;refine a0j (cs := #[.int .i64 ((a0b l2 a).f0), .int .i64 0, .int .i64 0]) ?_ 1 _ rfl;refine qd_ ?_;refine a0j (cs := #[.int .i64 0, .int .i64 0, .int .i64 0]) ?_ 0 _ rfl;refine qd_ ?_;exact c.out⟩,⟨qb_⟩⟩
  rw [if_neg aF] at H
  have aL : decide (36524 < ((a0b l2 a).f1)) = false := decide_eq_false aF
  clear aF
  have H' := am_ H
  clear H
  have eb := y.out
  have ec := j.out
  obtain ⟨bh,bi,bj⟩ := qz3_ c;obtain ⟨bk,bl,bm⟩ := qf3_ c
  obtain ⟨bn,bo,bp,bq,br⟩ := qz5_ b;obtain ⟨bs,bt,bu,bv,bw⟩ := qf5_ b
  go_wp2
  go_meet
  case rel => exact ⟨_,((((a0b l2 a).f2) != (wrap64 (((a0b l2 a).f1) + ((a0a l0 a).f2))))),qs_,H',⟨by have := ap.out;have := aq.out;first | omega | exact Nat.le_refl _⟩,⟨by refine qdj_ ?_ j;refine qdj_ ?_ j;refine qdj_ ?_ j;refine qd_ ?_;exact b.out⟩,⟨by refine qd_ ?_;refine a0j (cs := #[.int .i64 ((a0b l2 a).f0), .int .i64 ((a0b l2 a).f1), .int .i64 0]) ?_ 2 _ rfl;refine qd_ ?_;refine a0j (cs := #[.int .i64 ((a0b l2 a).f0), .int .i64 0, .int .i64 0]) ?_ 1 _ rfl;refine qd_ ?_;refine a0j (cs := #[.int .i64 0, .int .i64 0, .int .i64 0]) ?_ 0 _ rfl;refine qd_ ?_;exact c.out⟩,⟨qb_⟩⟩
 case rest =>
 clear bD
 try clear c1
 try clear c2
 try clear c8
 try clear c9
 try clear aK
 try clear bN
 try clear bO
 try clear W
 try clear aL
 try clear aP aQ aR aS aT
 try clear aZ b0 b1
 try clear b5 b6 b7
 try clear bb bc bd
 try clear bh bi bj
 try clear bn bo bp bq br
 try clear aU aV aW aX aY
 try clear b2 b3 b4
 try clear b8 b9 ba
 try clear be bf bg
 try clear bk bl bm
 try clear bs bt bu bv bw
 try clear a2
 try clear a3
 try clear a4
 try clear a5
 try clear a6
 try clear l
 try clear u
 try clear v
 try clear ar
 try clear av
 try clear au
 try clear aw
 obtain ⟨kq,ah,rfl,HA,aM,b,c,HB⟩ := hcut
 cases kq with
 | zero => exact absurd HA.out (by simp [a0d.j2])
 | succ a1 =>
 have H := HA.out
 clear HA
 simp only [a0d.j2] at H
 by_cases bx : ah = true
 ·subst bx
  replace H := qip_ H
  obtain rfl := si_ H
  go_wp2
  go_ret
  exact ⟨qx_,qb_⟩
 replace bx := be_ bx
 subst bx
 replace H := qin_ H
 replace H := bm_ H
 obtain ⟨⟨ac,bY⟩,bZ,H⟩ := H
 replace H : ((a2b.f a1 ac ((a0b l2 a).f1) ((a0b l2 a).f2)).bind fun bE => (if bE = true then (a0d.l1 a1 l0 l1 l2 a 0 ((a0a l0 a).f0) ((a0a l0 a).f1) ((a0a l0 a).f2) ((a0a l0 a).f3) ((a0a l0 a).f4) ((a0b l2 a).f0) ((a0b l2 a).f1) ((a0b l2 a).f2)) else (some 6))) = some r := H
 have cO := am_ bZ
 clear bZ
 replace H := bm_ H
 obtain ⟨bE,ca,H⟩ := H
 have cP := am_ ca
 clear ca
 by_cases bz : bE = true
 rotate_left
 ·replace bz := be_ bz
  subst bz
  replace H := qin_ H
  obtain rfl := si_ H
  have ed := j.out
  have ee := y.out
  obtain ⟨d6,d7,d8,d9,da⟩ := qz5_ b;obtain ⟨db,dc,dd,de,df⟩ := qf5_ b
  go_wp2_with (first | ((with_reducible refine a0i (f := 34) rfl ?_);refine a1i (some 65) rfl rfl Try.func34 (by kernel_rfl) rfl #[.slice A1 l1.length c1, .int .i64 ((a0a l0 a).f1)] rfl ql_ ?_;(with_reducible refine (a1v.calls a1 (fun k_ => k_ < w.heap.size) _ _ l1 ((a0a l0 a).f1) ac bY _ ?s1 cO.out).mono ?_);(case s1 => exact Kd.V_mk bV.out (Kd.b0d (Kd.C_F a9l bU.out) qb_));rintro e eE ⟨cU,rfl,bA,hb⟩;refine ⟨_,rfl,?_⟩;have X := am_ (Kd.b0f (Kd.b0e (ok' := fun k_ => k_ ≠ d ∧ k_ ≠ x) bA (fun k_ hk_ => ⟨Or.elim hk_ (fun hs_ => fun e_ => Nat.not_le.2 hs_ (by rw [e_];exact U.out)) (fun hn_ => (Kd.a7c (g := d) (o := .cells #[.int .i64 ((a0a l0 a).f0), .int .i64 ((a0a l0 a).f1), .int .i64 ((a0a l0 a).f2), .slice A ((a0a l0 a).f3).length z, .slice B ((a0a l0 a).f4).length D] 51 (0,0)) (qk_ b) k_ hn_)),Or.elim hk_ (fun hs_ => fun e_ => Nat.not_le.2 hs_ (by rw [e_];exact bP.out)) (fun hn_ => (Kd.a7c (g := x) (o := .cells #[.int .i64 ((a0b l2 a).f0), .int .i64 ((a0b l2 a).f1), .int .i64 ((a0b l2 a).f2)] 42 (0,0)) (qk_ c) k_ hn_))⟩)) (a0r qb_));replace b := qkb_ b hb;replace c := qkb_ c hb;replace HB := qbs_ hb;(try clear hb);(try clear bM);(try clear hk);(try clear hi);(try clear bA);obtain ⟨dg,dh,di⟩ := qz3_ c;obtain ⟨dj,dk,dl⟩ := qf3_ c;obtain ⟨cV,cW,cX⟩ := Kd.b7j X.out;subst cX) | ((with_reducible refine a0i (f := 44) rfl ?_);refine a1i (some 73) rfl rfl Try.func44 (by kernel_rfl) rfl #[.slice cV ac.length cW, .int .i64 ((a0b l2 a).f1), .int .i64 ((a0b l2 a).f2)] rfl ql_ ?_;(with_reducible refine (a2b.calls a1 _ _ ac ((a0b l2 a).f1) ((a0b l2 a).f2) false _ ?s1 ?s2 cP.out).mono ?_);(case s1 => repeat (first | exact (Kd.a6o X.out).2.2 | (with_reducible refine Kd.a1b ?_ _) | (with_reducible refine Kd.a1c ?_ _) | (with_reducible refine Kd.a1k ?_)));(case s2 => exact (Kd.a6o X.out).2.1);rintro e w' ⟨rfl,⟨nd,rfl⟩⟩;refine ⟨_,rfl,?_⟩))
  go_ret
  exact ⟨qx_,qb_⟩
 subst bz
 replace H := qip_ H
 have H' := am_ H
 clear H
 have ef := j.out
 have eg := y.out
 obtain ⟨cb,cc,cd,ce,cf⟩ := qz5_ b;obtain ⟨cg,ch,ci,cj,ck⟩ := qf5_ b
 go_wp2_with (first | ((with_reducible refine a0i (f := 34) rfl ?_);refine a1i (some 65) rfl rfl Try.func34 (by kernel_rfl) rfl #[.slice A1 l1.length c1, .int .i64 ((a0a l0 a).f1)] rfl ql_ ?_;(with_reducible refine (a1v.calls a1 (fun k_ => k_ < w.heap.size) _ _ l1 ((a0a l0 a).f1) ac bY _ ?s1 cO.out).mono ?_);(case s1 => exact Kd.V_mk bV.out (Kd.b0d (Kd.C_F a9l bU.out) qb_));rintro e eF ⟨cU,rfl,bA,hb⟩;refine ⟨_,rfl,?_⟩;have X := am_ (Kd.b0f (Kd.b0e (ok' := fun k_ => k_ ≠ d ∧ k_ ≠ x) bA (fun k_ hk_ => ⟨Or.elim hk_ (fun hs_ => fun e_ => Nat.not_le.2 hs_ (by rw [e_];exact U.out)) (fun hn_ => (Kd.a7c (g := d) (o := .cells #[.int .i64 ((a0a l0 a).f0), .int .i64 ((a0a l0 a).f1), .int .i64 ((a0a l0 a).f2), .slice A ((a0a l0 a).f3).length z, .slice B ((a0a l0 a).f4).length D] 51 (0,0)) (qk_ b) k_ hn_)),Or.elim hk_ (fun hs_ => fun e_ => Nat.not_le.2 hs_ (by rw [e_];exact bP.out)) (fun hn_ => (Kd.a7c (g := x) (o := .cells #[.int .i64 ((a0b l2 a).f0), .int .i64 ((a0b l2 a).f1), .int .i64 ((a0b l2 a).f2)] 42 (0,0)) (qk_ c) k_ hn_))⟩)) (a0r qb_));replace b := qkb_ b hb;replace c := qkb_ c hb;replace HB := qbs_ hb;(try clear hb);(try clear bM);(try clear hk);(try clear hi);(try clear bA);obtain ⟨cl,cm,cn⟩ := qz3_ c;obtain ⟨co,cp,cq⟩ := qf3_ c;obtain ⟨cY,cZ,d0⟩ := Kd.b7j X.out;subst d0) | ((with_reducible refine a0i (f := 44) rfl ?_);refine a1i (some 73) rfl rfl Try.func44 (by kernel_rfl) rfl #[.slice cY ac.length cZ, .int .i64 ((a0b l2 a).f1), .int .i64 ((a0b l2 a).f2)] rfl ql_ ?_;(with_reducible refine (a2b.calls a1 _ _ ac ((a0b l2 a).f1) ((a0b l2 a).f2) true _ ?s1 ?s2 cP.out).mono ?_);(case s1 => repeat (first | exact (Kd.a6o X.out).2.2 | (with_reducible refine Kd.a1b ?_ _) | (with_reducible refine Kd.a1c ?_ _) | (with_reducible refine Kd.a1k ?_)));(case s2 => exact (Kd.a6o X.out).2.1);rintro e w' ⟨rfl,⟨nd,rfl⟩⟩;refine ⟨_,rfl,?_⟩))
 go_loopg [15] a1 (fun kq dm w' => ∃ (t : Int),dm = .int .i64 t ∧ Aside0 (a0d.l1 kq l0 l1 l2 a t ((a0a l0 a).f0) ((a0a l0 a).f1) ((a0a l0 a).f2) ((a0a l0 a).f3) ((a0a l0 a).f4) ((a0b l2 a).f0) ((a0b l2 a).f1) ((a0b l2 a).f2) = some r) ∧ Aside0 (kq ≤ a1) ∧ Aside0 (w'.heap[d]? = some (.cells #[.int .i64 ((a0a l0 a).f0), .int .i64 ((a0a l0 a).f1), .int .i64 ((a0a l0 a).f2),(.slice A ((a0a l0 a).f3).length z),(.slice B ((a0a l0 a).f4).length D)] 51 (0,0))) ∧ Aside0 (w'.heap[x]? = some (.cells #[.int .i64 ((a0b l2 a).f0), .int .i64 ((a0b l2 a).f1), .int .i64 ((a0b l2 a).f2)] 42 (0,0))) ∧ Aside0 (Below w.heap.size w w'))
 case atStart => exact ⟨(0),qs_,H',⟨Nat.le_refl _⟩,⟨qk_ b⟩,⟨qk_ c⟩,⟨qb_⟩⟩
 case round =>
 clear H'
 try clear c1
 try clear c2
 try clear c8
 try clear c9
 try clear aK
 try clear bN
 try clear bO
 try clear W
 try clear aL
 try clear bx
 try clear bz
 try clear aP aQ aR aS aT
 try clear aZ b0 b1
 try clear b5 b6 b7
 try clear bb bc bd
 try clear bh bi bj
 try clear bn bo bp bq br
 try clear cb cc cd ce cf
 try clear cl cm cn
 try clear aU aV aW aX aY
 try clear b2 b3 b4
 try clear b8 b9 ba
 try clear be bf bg
 try clear bk bl bm
 try clear bs bt bu bv bw
 try clear cg ch ci cj ck
 try clear co cp cq
 try clear a2
 try clear a3
 try clear a4
 try clear a5
 try clear a6
 try clear l
 try clear u
 try clear v
 try clear ar
 try clear av
 try clear au
 try clear aw
 obtain ⟨t,rfl,HA,bQ,b,c,HB⟩ := hrel
 cases gk with
 | zero => exact absurd HA.out (by simp [a0d.l1])
 | succ k4 =>
 have H := HA.out
 clear HA
 simp only [a0d.l1] at H
 by_cases aG : t < (((a0a l0 a).f3).length : Int)
 rotate_left
 ·rw [if_neg aG] at H
  have cB : decide (t < (((a0a l0 a).f3).length : Int)) = false := decide_eq_false aG
  clear aG
  by_cases bB : 0 ≤ a
  rotate_left
  ·rw [if_neg bB] at H
   exact absurd H (by simp)
  rw [if_pos bB] at H
  have eh := eq_true bB
  have ei : decide (0 ≤ a) = true := decide_eq_true bB
  clear bB
  by_cases bC : a ≤ (l2.length : Int)
  rotate_left
  ·rw [if_neg bC] at H
   exact absurd H (by simp)
  rw [if_pos bC] at H
  have ej := eq_true bC
  have ek : decide (a ≤ (l2.length : Int)) = true := decide_eq_true bC
  clear bC
  obtain ⟨a0,ai⟩ : ∃ y_ : List (S42),y_ = (l2.take (a : Int).toNat) := ⟨_,rfl⟩
  replace H : ((a0o.f k4 l0 a ((a0b l2 a).f1) ((a0b l2 a).f2) a0).bind fun bF => (if bF = true then (some 22) else (a0d.l0 k4 l0 l1 l2 (wrap64 (a + 1))))) = some r := by first | (rw [ai];with_reducible exact H) | (have cr := (Option.bind_some _ _).symm.trans H;rw [ai];with_reducible exact cr) | (have cr := (Option.bind_some _ _).symm.trans H;with_reducible exact cr) | with_reducible exact H | (rw [ai];exact H) | exact H
  have an := am_ ai
  clear ai
  replace H := bm_ H
  obtain ⟨bF,ct,H⟩ := H
  have cQ := am_ ct
  clear ct
  by_cases bR : bF = true
  ·subst bR
   replace H := qip_ H
   obtain rfl := si_ H
   have el := j.out
   have em := y.out
   obtain ⟨dn,dp,dq,dr,dt⟩ := qz5_ b;obtain ⟨du,dv,dw,dx,dy⟩ := qf5_ b
   try go_wp2
   replace b := am_ (bd_ b.out)
   replace c := am_ (bd_ c.out)
   replace HB := am_ (ld_ HB.out)
   have cu : (a : Int) ≤ ((l2.length : Int) : Int) := ot_
   obtain ⟨ey,bS,_,cC,_⟩ := info_parts a8r
   have hroom56 : l2.length ≤ c2 := bW.out
   have cv : Kd.C k42 _ (some q) l2.length l2 := ay.out
   have cw := a7l (P := Try.prog) 24 42 .i64 Try.underlying24 bS (some q) l2.length c2 a (ot_) cu hroom56
   have bG := Kd.a7m (m := (a : Int).toNat) cv (by omega)
   have bH : a0.length = (a : Int).toNat := (by rw [an.out,List.length_take];omega)
   rw [← an.out] at bG
   rw [← bH] at cw
   have aj := am_ bG
   have aN := am_ (show a0.length ≤ c2 from by omega)
   clear bG cv hroom56 bS cC
   have ez := am_ bH
   clear bH
   replace cu := eq_true cu
   refine a4r (n := 11) (S := fun w' => w'.cell? ⟨x,0,none⟩ = some (.int .i64 ((a0b l2 a).f0)) ∧ w'.cell? ⟨x,1,none⟩ = some (.int .i64 ((a0b l2 a).f1)) ∧ w'.cell? ⟨x,2,none⟩ = some (.int .i64 ((a0b l2 a).f2))) (ds := []) #[Y,Y,Y,Y,Y,Y,Y,Y,Y,Y,Y] (by kernel_rfl) rfl rfl ⟨(bc_ c.out 0).trans rfl,(bc_ c.out 1).trans rfl,(bc_ c.out 2).trans rfl⟩ (fun hHeld => ?_);refine a3n a0d.b5k a0d.b3m (fun HT_ HW_ => ?_)
   generalize wr.drew = eG at b c HB aj hHeld ⊢
   refine qpu_ 0 (some 98) #[Z,Y,Y,Y,Y,Y,Y,Y,Y,Y,Y] ?_
   refine qpu_ 1 (some 99) #[Z,Z,Y,Y,Y,Y,Y,Y,Y,Y,Y] ?_
   refine qpu_ 2 (some 100) #[Z,Z,Z,Y,Y,Y,Y,Y,Y,Y,Y] ?_
   refine qpu_ 4 (some 102) #[Z,Z,Z,Y,Z,Y,Y,Y,Y,Y,Y] ?_
   refine qpu_ 6 (some 104) #[Z,Z,Z,Y,Z,Y,Z,Y,Y,Y,Y] ?_
   refine qpu_ 7 (some 105) #[Z,Z,Z,Y,Z,Y,Z,Z,Y,Y,Y] ?_
   refine qpu_ 8 (some 106) #[Z,Z,Z,Y,Z,Y,Z,Z,Z,Y,Y] ?_
   refine b2g 3 (some 101) #[Z,Z,Z,Z,Z,Y,Z,Z,Z,Y,Y] hHeld ?_
   refine b2g 5 (some 103) #[Z,Z,Z,Z,Z,Z,Z,Z,Z,Y,Y] hHeld ?_
   refine one_ (i := 9) (N := some 107) #[Z,Z,Z,Z,Z,Z,Z,Z,Z,Z,Y] rfl rfl (a4n HT_.out (by kernel_rfl)) (by decide) (fun K hK => ?_)
   refine a5f Try.func45 (by kernel_rfl) rfl #[.slice (some am) l0.length c0, .int .i64 a, .int .i64 ((a0b l2 a).f1), .int .i64 ((a0b l2 a).f2), .slice (some q) a0.length c2] (by rfl) rfl rfl ql_ ?_
   with_reducible refine (a0o.calls k4 _ _ l0 a ((a0b l2 a).f1) ((a0b l2 a).f2) _ _ a0 true _ ?s1 ax.out ?s3 aN.out cQ.out).mono ?_
   (case s1 => exact qc_ ao)
   (case s3 => exact qc_ aj)
   rintro e eH ⟨rfl,hb⟩
   refine ⟨_,rfl,?_⟩
   replace b := qkb_ b hb
   replace c := qkb_ c hb
   replace HB := qbs_ hb
   (try clear hb)
   (try clear bM)
   (try clear hk)
   (try clear hi)
   refine hK.out _ _ ⟨(bc_ c.out 0).trans rfl,(bc_ c.out 1).trans rfl,(bc_ c.out 2).trans rfl⟩ (fun hHeld => ?_)
   clear hK K
   refine a4p (a' := ?_) ?_ ?_
   rotate_left
   ·show Act.put _ (some 107) _ = _
    exact qp_
   refine qpu_ 10 (some 16) #[Z,Z,Z,Z,Z,Z,Z,Z,Z,Z,Z] ?_
   refine a5a (a4h HT_.out (by kernel_rfl)) ?_
   try go_wp2
   go_ret
   exact ⟨qx_,qb_⟩
  replace bR := be_ bR
  subst bR
  replace H := qin_ H
  have H' := am_ H
  clear H
  have en := j.out
  have eo := y.out
  obtain ⟨dz,dA,dB,dC,dD⟩ := qz5_ b;obtain ⟨dE,dF,dG,dH,dI⟩ := qf5_ b
  try go_wp2
  replace b := am_ (bd_ b.out)
  replace c := am_ (bd_ c.out)
  replace HB := am_ (ld_ HB.out)
  have cx : (a : Int) ≤ ((l2.length : Int) : Int) := ot_
  obtain ⟨eA,bT,_,cD,_⟩ := info_parts a8r
  have hroom61 : l2.length ≤ c2 := bW.out
  have cy : Kd.C k42 _ (some q) l2.length l2 := ay.out
  have cz := a7l (P := Try.prog) 24 42 .i64 Try.underlying24 bT (some q) l2.length c2 a (ot_) cx hroom61
  have bI := Kd.a7m (m := (a : Int).toNat) cy (by omega)
  have bJ : a0.length = (a : Int).toNat := (by rw [an.out,List.length_take];omega)
  rw [← an.out] at bI
  rw [← bJ] at cz
  have aj := am_ bI
  have aN := am_ (show a0.length ≤ c2 from by omega)
  clear bI cy hroom61 bT cD
  have eB := am_ bJ
  clear bJ
  replace cx := eq_true cx
  refine a4r (n := 11) (S := fun w' => w'.cell? ⟨x,0,none⟩ = some (.int .i64 ((a0b l2 a).f0)) ∧ w'.cell? ⟨x,1,none⟩ = some (.int .i64 ((a0b l2 a).f1)) ∧ w'.cell? ⟨x,2,none⟩ = some (.int .i64 ((a0b l2 a).f2))) (ds := []) #[Y,Y,Y,Y,Y,Y,Y,Y,Y,Y,Y] (by kernel_rfl) rfl rfl ⟨(bc_ c.out 0).trans rfl,(bc_ c.out 1).trans rfl,(bc_ c.out 2).trans rfl⟩ (fun hHeld => ?_);refine a3n a0d.b5k a0d.b3m (fun HT_ HW_ => ?_)
  generalize wr.drew = eI at b c HB aj hHeld ⊢
  refine qpu_ 0 (some 98) #[Z,Y,Y,Y,Y,Y,Y,Y,Y,Y,Y] ?_
  refine qpu_ 1 (some 99) #[Z,Z,Y,Y,Y,Y,Y,Y,Y,Y,Y] ?_
  refine qpu_ 2 (some 100) #[Z,Z,Z,Y,Y,Y,Y,Y,Y,Y,Y] ?_
  refine qpu_ 4 (some 102) #[Z,Z,Z,Y,Z,Y,Y,Y,Y,Y,Y] ?_
  refine qpu_ 6 (some 104) #[Z,Z,Z,Y,Z,Y,Z,Y,Y,Y,Y] ?_
  refine qpu_ 7 (some 105) #[Z,Z,Z,Y,Z,Y,Z,Z,Y,Y,Y] ?_
  refine qpu_ 8 (some 106) #[Z,Z,Z,Y,Z,Y,Z,Z,Z,Y,Y] ?_
  refine b2g 3 (some 101) #[Z,Z,Z,Z,Z,Y,Z,Z,Z,Y,Y] hHeld ?_
  refine b2g 5 (some 103) #[Z,Z,Z,Z,Z,Z,Z,Z,Z,Y,Y] hHeld ?_
  refine one_ (i := 9) (N := some 107) #[Z,Z,Z,Z,Z,Z,Z,Z,Z,Z,Y] rfl rfl (a4n HT_.out (by kernel_rfl)) (by decide) (fun K hK => ?_)
  refine a5f Try.func45 (by kernel_rfl) rfl #[.slice (some am) l0.length c0, .int .i64 a, .int .i64 ((a0b l2 a).f1), .int .i64 ((a0b l2 a).f2), .slice (some q) a0.length c2] (by rfl) rfl rfl ql_ ?_
  with_reducible refine (a0o.calls k4 _ _ l0 a ((a0b l2 a).f1) ((a0b l2 a).f2) _ _ a0 false _ ?s1 ax.out ?s3 aN.out cQ.out).mono ?_
  (case s1 => exact qc_ ao)
  (case s3 => exact qc_ aj)
  rintro e eJ ⟨rfl,hb⟩
  refine ⟨_,rfl,?_⟩
  replace b := qkb_ b hb
  replace c := qkb_ c hb
  replace HB := qbs_ hb
  (try clear hb)
  (try clear bM)
  (try clear hk)
  (try clear hi)
  refine hK.out _ _ ⟨(bc_ c.out 0).trans rfl,(bc_ c.out 1).trans rfl,(bc_ c.out 2).trans rfl⟩ (fun hHeld => ?_)
  clear hK K
  refine a4p (a' := ?_) ?_ ?_
  rotate_left
  ·show Act.put _ (some 107) _ = _
   exact qp_
  refine qpu_ 10 (some 16) #[Z,Z,Z,Z,Z,Z,Z,Z,Z,Z,Z] ?_
  refine a5a (a4h HT_.out (by kernel_rfl)) ?_
  try go_wp2
  go_roundg k4
  case measure => have := ap.out;have := aq.out;have := aM.out;have := bQ.out;omega
  case rel => exact ⟨(wrap64 (a + 1)),qs_,H',⟨by have := ap.out;have := aq.out;have := aM.out;have := bQ.out;omega⟩,⟨qb_⟩⟩
 rw [if_pos aG] at H
 have cB : decide (t < (((a0a l0 a).f3).length : Int)) = true := decide_eq_true aG
 clear aG
 obtain ⟨ep,H⟩ := qid_ H
 replace H := bm_ H
 obtain ⟨s,cA,H⟩ := H
 have cR := am_ cA
 clear cA
 obtain ⟨eq,H⟩ := qid_ H
 obtain ⟨er,H⟩ := qid_ H
 by_cases aH : ((a0b l2 a).f1) < ((a0b l2 s).f2)
 ·rw [if_pos aH] at H
  have cE : decide (((a0b l2 a).f1) < ((a0b l2 s).f2)) = true := decide_eq_true aH
  clear aH
  obtain rfl := si_ H
  have es := j.out
  have et := y.out
  obtain ⟨dJ,dK,dL,dM,dN⟩ := qz5_ b;obtain ⟨dO,dP,dQ,dR,dS⟩ := qf5_ b
  try go_wp2
  replace b := am_ (bd_ b.out)
  replace c := am_ (bd_ c.out)
  replace HB := am_ (ld_ HB.out)
  have ad : 0 ≤ (t : Int) := ot_
  have ae : t < (((a0a l0 a).f3).length : Int) := ot_
  obtain ⟨ak,bK,E⟩ := Kd.a4q aD.out t ad ae
  have G := E
  cases bK
  replace E := qh_ HB E
  replace ad := eq_true ad
  replace ae := eq_true ae
  have af : 0 ≤ (s : Int) := ot_
  have ag : s < (l2.length : Int) := ot_
  obtain ⟨aO,bL,I,J,L⟩ := a3o ay.out s af ag
  have M := L
  have O := J
  have T := I
  obtain rfl : q = aO := (by injection bL)
  replace I := qh_ HB I
  replace J := qh_ HB J
  replace L := qh_ HB L
  replace af := eq_true af
  replace ag := eq_true ag
  refine a4r (n := 15) (S := fun w' => w'.cell? ⟨x,0,none⟩ = some (.int .i64 ((a0b l2 a).f0)) ∧ w'.cell? ⟨x,1,none⟩ = some (.int .i64 ((a0b l2 a).f1)) ∧ w'.cell? ⟨x,2,none⟩ = some (.int .i64 ((a0b l2 a).f2)) ∧ w'.cell? ⟨d,0,none⟩ = some (.int .i64 ((a0a l0 a).f0)) ∧ w'.cell? ⟨d,1,none⟩ = some (.int .i64 ((a0a l0 a).f1)) ∧ w'.cell? ⟨d,2,none⟩ = some (.int .i64 ((a0a l0 a).f2)) ∧ w'.cell? ⟨d,3,none⟩ = some (.slice (some ak) ((a0a l0 a).f3).length z) ∧ w'.cell? ⟨d,4,none⟩ = some (.slice B ((a0a l0 a).f4).length D) ∧ w'.cell? (ak.add (t).toNat) = some (.int .i64 (rd ((a0a l0 a).f3) t)) ∧ w'.cell? (q.add ((s).toNat * 3)) = some (.int .i64 ((a0b l2 s).f0)) ∧ w'.cell? ⟨(q.add ((s).toNat * 3)).block,(q.add ((s).toNat * 3)).off + 1,none⟩ = some (.int .i64 ((a0b l2 s).f1)) ∧ w'.cell? ⟨(q.add ((s).toNat * 3)).block,(q.add ((s).toNat * 3)).off + 2,none⟩ = some (.int .i64 ((a0b l2 s).f2))) (ds := []) #[Y,Y,Y,Y,Y,Y,Y,Y,Y,Y,Y,Y,Y,Y,Y] (by kernel_rfl) rfl rfl ⟨(bc_ c.out 0).trans rfl,(bc_ c.out 1).trans rfl,(bc_ c.out 2).trans rfl,(bc_ b.out 0).trans rfl,(bc_ b.out 1).trans rfl,(bc_ b.out 2).trans rfl,(bc_ b.out 3).trans rfl,(bc_ b.out 4).trans rfl,((HB.out.cell (World.block_lt_of_cell? w _ G)).trans G),((HB.out.cell (World.block_lt_of_cell? w _ T)).trans T),((HB.out.cell (World.block_lt_of_cell? w _ O)).trans O),((HB.out.cell (World.block_lt_of_cell? w _ M)).trans M)⟩ (fun hHeld => ?_);refine a3n a0d.c2o a0d.c0l (fun HT_ HW_ => ?_)
  generalize wr.drew = eK at b c HB E I J L hHeld ⊢
  refine qpu_ 0 (some 83) #[Z,Y,Y,Y,Y,Y,Y,Y,Y,Y,Y,Y,Y,Y,Y] ?_
  refine qpu_ 2 (some 85) #[Z,Y,Z,Y,Y,Y,Y,Y,Y,Y,Y,Y,Y,Y,Y] ?_
  refine qpu_ 3 (some 86) #[Z,Y,Z,Z,Y,Y,Y,Y,Y,Y,Y,Y,Y,Y,Y] ?_
  refine qpu_ 4 (some 87) #[Z,Y,Z,Z,Z,Y,Y,Y,Y,Y,Y,Y,Y,Y,Y] ?_
  refine qpu_ 5 (some 88) #[Z,Y,Z,Z,Z,Z,Y,Y,Y,Y,Y,Y,Y,Y,Y] ?_
  refine qpu_ 7 (some 90) #[Z,Y,Z,Z,Z,Z,Y,Z,Y,Y,Y,Y,Y,Y,Y] ?_
  refine a7n 1 (some 84) #[Z,Z,Z,Z,Z,Z,Y,Z,Y,Y,Y,Y,Y,Y,Y] hHeld ?_
  refine a7n 6 (some 89) #[Z,Z,Z,Z,Z,Z,Z,Z,Y,Y,Y,Y,Y,Y,Y] hHeld ?_
  refine qpu_ 8 (some 91) #[Z,Z,Z,Z,Z,Z,Z,Z,Z,Y,Y,Y,Y,Y,Y] ?_
  refine a7n 9 (some 92) #[Z,Z,Z,Z,Z,Z,Z,Z,Z,Z,Y,Y,Y,Y,Y] hHeld ?_
  refine one_ (i := 10) (N := some 93) #[Z,Z,Z,Z,Z,Z,Z,Z,Z,Z,Z,Y,Y,Y,Y] rfl rfl (a4n HT_.out (by kernel_rfl)) (by decide) (fun K hK => ?_)
  refine a5f Try.func36 (by kernel_rfl) rfl #[.slice (some am) l0.length c0, .int .i64 a, .int .i64 (rd ((a0a l0 a).f3) t)] (by rfl) rfl rfl ql_ ?_
  with_reducible refine (a1m.calls k4 _ _ l0 a (rd ((a0a l0 a).f3) t) s _ ?s1 ax.out cR.out).mono ?_
  (case s1 => exact qc_ ao)
  rintro e w' ⟨rfl,⟨nd,rfl⟩⟩
  refine ⟨_,rfl,?_⟩
  refine hK.out _ _ ⟨(bc_ c.out 0).trans rfl,(bc_ c.out 1).trans rfl,(bc_ c.out 2).trans rfl,(bc_ b.out 0).trans rfl,(bc_ b.out 1).trans rfl,(bc_ b.out 2).trans rfl,(bc_ b.out 3).trans rfl,(bc_ b.out 4).trans rfl,((HB.out.cell (World.block_lt_of_cell? w _ G)).trans G),((HB.out.cell (World.block_lt_of_cell? w _ T)).trans T),((HB.out.cell (World.block_lt_of_cell? w _ O)).trans O),((HB.out.cell (World.block_lt_of_cell? w _ M)).trans M)⟩ (fun hHeld => ?_)
  clear hK K
  refine a4p (a' := ?_) ?_ ?_
  rotate_left
  ·show Act.put _ (some 93) _ = _
   exact qp_
  refine qpu_ 11 (some 94) #[Z,Z,Z,Z,Z,Z,Z,Z,Z,Z,Z,Z,Y,Y,Y] ?_
  refine qpu_ 12 (some 95) #[Z,Z,Z,Z,Z,Z,Z,Z,Z,Z,Z,Z,Z,Y,Y] ?_
  refine a7n 13 (some 96) #[Z,Z,Z,Z,Z,Z,Z,Z,Z,Z,Z,Z,Z,Z,Y] hHeld ?_
  refine qpu_ 14 (some 97) #[Z,Z,Z,Z,Z,Z,Z,Z,Z,Z,Z,Z,Z,Z,Z] ?_
  refine a5a (a4h HT_.out (by kernel_rfl)) ?_
  try go_wp2
  go_ret
  exact ⟨qx_,qb_⟩
 rw [if_neg aH] at H
 have cE : decide (((a0b l2 a).f1) < ((a0b l2 s).f2)) = false := decide_eq_false aH
 clear aH
 have H' := am_ H
 clear H
 have eu := j.out
 have ev := y.out
 obtain ⟨dT,dU,dV,dW,dX⟩ := qz5_ b;obtain ⟨dY,dZ,e0,e1,e2⟩ := qf5_ b
 try go_wp2
 replace b := am_ (bd_ b.out)
 replace c := am_ (bd_ c.out)
 replace HB := am_ (ld_ HB.out)
 have ad : 0 ≤ (t : Int) := ot_
 have ae : t < (((a0a l0 a).f3).length : Int) := ot_
 obtain ⟨ak,bK,E⟩ := Kd.a4q aD.out t ad ae
 have G := E
 cases bK
 replace E := qh_ HB E
 replace ad := eq_true ad
 replace ae := eq_true ae
 have af : 0 ≤ (s : Int) := ot_
 have ag : s < (l2.length : Int) := ot_
 obtain ⟨aO,bL,I,J,L⟩ := a3o ay.out s af ag
 have M := L
 have O := J
 have T := I
 obtain rfl : q = aO := (by injection bL)
 replace I := qh_ HB I
 replace J := qh_ HB J
 replace L := qh_ HB L
 replace af := eq_true af
 replace ag := eq_true ag
 refine a4r (n := 15) (S := fun w' => w'.cell? ⟨x,0,none⟩ = some (.int .i64 ((a0b l2 a).f0)) ∧ w'.cell? ⟨x,1,none⟩ = some (.int .i64 ((a0b l2 a).f1)) ∧ w'.cell? ⟨x,2,none⟩ = some (.int .i64 ((a0b l2 a).f2)) ∧ w'.cell? ⟨d,0,none⟩ = some (.int .i64 ((a0a l0 a).f0)) ∧ w'.cell? ⟨d,1,none⟩ = some (.int .i64 ((a0a l0 a).f1)) ∧ w'.cell? ⟨d,2,none⟩ = some (.int .i64 ((a0a l0 a).f2)) ∧ w'.cell? ⟨d,3,none⟩ = some (.slice (some ak) ((a0a l0 a).f3).length z) ∧ w'.cell? ⟨d,4,none⟩ = some (.slice B ((a0a l0 a).f4).length D) ∧ w'.cell? (ak.add (t).toNat) = some (.int .i64 (rd ((a0a l0 a).f3) t)) ∧ w'.cell? (q.add ((s).toNat * 3)) = some (.int .i64 ((a0b l2 s).f0)) ∧ w'.cell? ⟨(q.add ((s).toNat * 3)).block,(q.add ((s).toNat * 3)).off + 1,none⟩ = some (.int .i64 ((a0b l2 s).f1)) ∧ w'.cell? ⟨(q.add ((s).toNat * 3)).block,(q.add ((s).toNat * 3)).off + 2,none⟩ = some (.int .i64 ((a0b l2 s).f2))) (ds := []) #[Y,Y,Y,Y,Y,Y,Y,Y,Y,Y,Y,Y,Y,Y,Y] (by kernel_rfl) rfl rfl ⟨(bc_ c.out 0).trans rfl,(bc_ c.out 1).trans rfl,(bc_ c.out 2).trans rfl,(bc_ b.out 0).trans rfl,(bc_ b.out 1).trans rfl,(bc_ b.out 2).trans rfl,(bc_ b.out 3).trans rfl,(bc_ b.out 4).trans rfl,((HB.out.cell (World.block_lt_of_cell? w _ G)).trans G),((HB.out.cell (World.block_lt_of_cell? w _ T)).trans T),((HB.out.cell (World.block_lt_of_cell? w _ O)).trans O),((HB.out.cell (World.block_lt_of_cell? w _ M)).trans M)⟩ (fun hHeld => ?_);refine a3n a0d.c2o a0d.c0l (fun HT_ HW_ => ?_)
 generalize wr.drew = eL at b c HB E I J L hHeld ⊢
 refine qpu_ 0 (some 83) #[Z,Y,Y,Y,Y,Y,Y,Y,Y,Y,Y,Y,Y,Y,Y] ?_
 refine qpu_ 2 (some 85) #[Z,Y,Z,Y,Y,Y,Y,Y,Y,Y,Y,Y,Y,Y,Y] ?_
 refine qpu_ 3 (some 86) #[Z,Y,Z,Z,Y,Y,Y,Y,Y,Y,Y,Y,Y,Y,Y] ?_
 refine qpu_ 4 (some 87) #[Z,Y,Z,Z,Z,Y,Y,Y,Y,Y,Y,Y,Y,Y,Y] ?_
 refine qpu_ 5 (some 88) #[Z,Y,Z,Z,Z,Z,Y,Y,Y,Y,Y,Y,Y,Y,Y] ?_
 refine qpu_ 7 (some 90) #[Z,Y,Z,Z,Z,Z,Y,Z,Y,Y,Y,Y,Y,Y,Y] ?_
 refine a7n 1 (some 84) #[Z,Z,Z,Z,Z,Z,Y,Z,Y,Y,Y,Y,Y,Y,Y] hHeld ?_
 refine a7n 6 (some 89) #[Z,Z,Z,Z,Z,Z,Z,Z,Y,Y,Y,Y,Y,Y,Y] hHeld ?_
 refine qpu_ 8 (some 91) #[Z,Z,Z,Z,Z,Z,Z,Z,Z,Y,Y,Y,Y,Y,Y] ?_
 refine a7n 9 (some 92) #[Z,Z,Z,Z,Z,Z,Z,Z,Z,Z,Y,Y,Y,Y,Y] hHeld ?_
 refine one_ (i := 10) (N := some 93) #[Z,Z,Z,Z,Z,Z,Z,Z,Z,Z,Z,Y,Y,Y,Y] rfl rfl (a4n HT_.out (by kernel_rfl)) (by decide) (fun K hK => ?_)
 refine a5f Try.func36 (by kernel_rfl) rfl #[.slice (some am) l0.length c0, .int .i64 a, .int .i64 (rd ((a0a l0 a).f3) t)] (by rfl) rfl rfl ql_ ?_
 with_reducible refine (a1m.calls k4 _ _ l0 a (rd ((a0a l0 a).f3) t) s _ ?s1 ax.out cR.out).mono ?_
 (case s1 => exact qc_ ao)
 rintro e w' ⟨rfl,⟨nd,rfl⟩⟩
 refine ⟨_,rfl,?_⟩
 refine hK.out _ _ ⟨(bc_ c.out 0).trans rfl,(bc_ c.out 1).trans rfl,(bc_ c.out 2).trans rfl,(bc_ b.out 0).trans rfl,(bc_ b.out 1).trans rfl,(bc_ b.out 2).trans rfl,(bc_ b.out 3).trans rfl,(bc_ b.out 4).trans rfl,((HB.out.cell (World.block_lt_of_cell? w _ G)).trans G),((HB.out.cell (World.block_lt_of_cell? w _ T)).trans T),((HB.out.cell (World.block_lt_of_cell? w _ O)).trans O),((HB.out.cell (World.block_lt_of_cell? w _ M)).trans M)⟩ (fun hHeld => ?_)
 clear hK K
 refine a4p (a' := ?_) ?_ ?_
 rotate_left
 ·show Act.put _ (some 93) _ = _
  exact qp_
 refine qpu_ 11 (some 94) #[Z,Z,Z,Z,Z,Z,Z,Z,Z,Z,Z,Z,Y,Y,Y] ?_
 refine qpu_ 12 (some 95) #[Z,Z,Z,Z,Z,Z,Z,Z,Z,Z,Z,Z,Z,Y,Y] ?_
 refine a7n 13 (some 96) #[Z,Z,Z,Z,Z,Z,Z,Z,Z,Z,Z,Z,Z,Z,Y] hHeld ?_
 refine qpu_ 14 (some 97) #[Z,Z,Z,Z,Z,Z,Z,Z,Z,Z,Z,Z,Z,Z,Z] ?_
 refine a5a (a4h HT_.out (by kernel_rfl)) ?_
 try go_wp2
 go_roundg k4
 case measure => have := ap.out;have := aq.out;have := aM.out;have := bQ.out;omega
 case rel => exact ⟨(wrap64 (t + 1)),qs_,H',⟨by have := ap.out;have := aq.out;have := aM.out;have := bQ.out;omega⟩,⟨qk_ b⟩,⟨qk_ c⟩,⟨qb_⟩⟩
end Go.Proofs.Ytheibjkjmkanoaa.Px
