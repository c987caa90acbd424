/- Contracts of Go functions, printed. Conditions: as each theorem states. -/
import Derived.Test.YtheibjkjmkanoaaPx0
import Derived.Test.YtheibjkjmkanoaaPx11
namespace Go.Proofs.Ytheibjkjmkanoaa.Px
open Go.Proofs.Ytheibjkjmkanoaa.Given
open Go.RowKit Go.Proofs.YtheibjkjmkanoaaW.PrintWords Go.Proofs.YtheibjkjmkanoaaW.PrintLast Go.Proofs.YtheibjkjmkanoaaW.PrintMore
attribute [local go_sem] a3m a3n a3x a3y a3e a3f a3o a3p
set_option linter.unusedVariables false
set_option linter.unusedSimpArgs false
def a3l.f (k : Nat) (l0 : List (S51)) (l1 : List (S42)) : Option (Bool) := (a1d.f k l0 l1).bind fun a => (some a)
theorem a3l.mono : ∀ a0 a1 k,LeO (a3l.f k a0 a1) (a3l.f (k + 1) a0 a1) := by
 intro a0 a1 k
 unfold a3l.f
 with_reducible (repeat' first | apply a1d.mono | apply LeO.refl | apply LeO.none | apply LeO.ite | refine LeO.bind ?_ (fun _ => ?_))
set_option maxHeartbeats 8000000 in
set_option maxRecDepth 100000 in
theorem a3l.calls (k : Nat) (A0 : Option Addr) (c0 : Nat) (l0 : List (S51)) (A1 : Option Addr) (c1 : Nat) (l1 : List (S42)) (r : Bool) (w : World) (b : Kd.C k51 w A0 l0.length l0) (c : l0.length ≤ c0) (d : Kd.C k42 w A1 l1.length l1) (g : l1.length ≤ c1) (h : a3l.f k l0 l1 = some r) :
  Calls Try.prog 37 #[.slice A0 l0.length c0, .slice A1 l1.length c1] w fun e w' => e = .returned (.bool r) ∧ Below w.heap.size w w' := by
 have j := am_ b
 have l := am_ c
 clear b c
 have m := am_ d
 have n := am_ g
 clear d g
 have HB := am_ (Below.refl w.heap.size w)
 have H : ((a1d.f k l0 l1).bind fun a => (some a)) = some r := h
 clear h
 replace H := bm_ H
 obtain ⟨a,i,H⟩ := H
 have A3 := am_ i
 clear i
 obtain rfl := si_ H
 go_enter Try.func37,Try.ntmps37
 go_wp2_with (first | ((with_reducible refine a0r (f := 57) rfl ?_);refine a2a (some 7) rfl rfl Try.func57 (by kernel_rfl) rfl #[.slice A0 l0.length c0, .slice A1 l1.length c1, .func (.func 58) #[] #[]] rfl ql_ ?_;(with_reducible refine (a1d.calls k _ _ l0 _ _ l1  a _ ?s1 l.out ?s3 n.out A3.out).mono ?_);(case s1 => repeat (first | exact j.out | (with_reducible refine Kd.a1t ?_ _) | (with_reducible refine Kd.a1u ?_ _) | (with_reducible refine Kd.a2h ?_)));(case s3 => repeat (first | exact m.out | (with_reducible refine Kd.a1t ?_ _) | (with_reducible refine Kd.a1u ?_ _) | (with_reducible refine Kd.a2h ?_)));rintro e w4 ⟨rfl,hb⟩;refine ⟨_,rfl,?_⟩;replace HB := qbs_ hb;(try clear hb);(try clear o);(try clear hk);(try clear hi)))
 go_ret
 exact ⟨qx_,qb_⟩
def a5c.f (a b e c d : Int) : Option (Bool) := if a ≤ c then (some (decide (d ≤ b))) else (some false)
set_option maxHeartbeats 8000000 in
set_option maxRecDepth 100000 in
theorem a5c.calls (b j : Int) (p : Nat) (l i k : Int) (r : Bool) (w : World) (q : w.heap[p]? = some (.cells #[.int .i64 l, .int .i64 i, .int .i64 k] 42 (0,0))) (h : a5c.f b j l i k = some r) :
  Calls Try.prog 39 #[.agg #[.int .i64 b, .int .i64 j], .pointer (some ⟨p,0,none⟩)] w fun e w' => e = .returned (.bool r) ∧ Below w.heap.size w w' := by
 have Y := Try.underlying56
 have a := am_ q
 clear q
 have HB := am_ (Below.refl w.heap.size w)
 have H : (if b ≤ i then (some (decide (k ≤ j))) else (some false)) = some r := h
 clear h
 by_cases c3 : b ≤ i
 ·rw [if_pos c3] at H
  have s : decide (b ≤ i) = true := decide_eq_true c3
  clear c3
  obtain rfl := si_ H
  go_enter Try.func39,Try.ntmps39
  go_wp2_with (first | ((with_reducible refine a0t (N := 2) rfl ?_);refine qev_ 2 #[.int .i64 b, .int .i64 j] 56 ?_;intro m hg w4 hbox hb;have g := am_ (hbox);have n := qga_ hg;have o := qga_ hg;replace HB := qbs_ hb;obtain ⟨c,d⟩ := qnb_ hg a;replace a := qkb_ a hb;clear hb hbox hg;have Z := d.out;have a0 := c.out;obtain ⟨G,J⟩ := qz2_ g;obtain ⟨K,L⟩ := qf2_ g;obtain ⟨M,O,P⟩ := qz3_ a;obtain ⟨T,W,X⟩ := qf3_ a))
  go_ret
  exact ⟨qx_,qb_⟩
 rw [if_neg c3] at H
 have s : decide (b ≤ i) = false := decide_eq_false c3
 clear c3
 obtain rfl := si_ H
 go_enter Try.func39,Try.ntmps39
 go_wp2_with (first | ((with_reducible refine a0t (N := 2) rfl ?_);refine qev_ 2 #[.int .i64 b, .int .i64 j] 56 ?_;intro m hg w8 hbox hb;have g := am_ (hbox);have n := qga_ hg;have o := qga_ hg;replace HB := qbs_ hb;obtain ⟨c,d⟩ := qnb_ hg a;replace a := qkb_ a hb;clear hb hbox hg;have a1 := d.out;have a2 := c.out;obtain ⟨t,u⟩ := qz2_ g;obtain ⟨v,x⟩ := qf2_ g;obtain ⟨y,z,A⟩ := qz3_ a;obtain ⟨B,D,E⟩ := qf3_ a))
 go_ret
 exact ⟨qx_,qb_⟩
def a1f.l0 : Nat → List (S56) → Int → Int → Int → Int → Int → Option (Int)
 | 0,_,_,_,_,_,_ => none
 | k + 1,x0,x7,x8,u0,u1,u2 => if x8 < x7 then (if 0 ≤ x8 then (if x8 < (x0.length : Int) then ((a5c.f ((a0h x0 x8).f0) ((a0h x0 x8).f1) u0 u1 u2).bind fun a => (if a = true then (some x8) else (a1f.l0 k x0 x7 (wrap64 (x8 + 1)) u0 u1 u2))) else (none)) else (none)) else (some (-1))
def a1f.f (k : Nat) (l0 : List (S56))  (a b c : Int) : Option (Int) := a1f.l0 k l0 (l0.length : Int) 0 a b c
theorem a1f.a1h : ∀ k,(∀ y0 y1 y2 y3 y4 y5,LeO (a1f.l0 k y0 y1 y2 y3 y4 y5) (a1f.l0 (k + 1) y0 y1 y2 y3 y4 y5))
 | 0 => fun _ _ _ _ _ _ r h => by simp [a1f.l0] at h
 | k + 1 => by
  have a := a1f.a1h k
  intro y0 y1 y2 y3 y4 y5
  unfold a1f.l0
  with_reducible (repeat' first | apply a | apply LeO.refl | apply LeO.none | apply LeO.ite | refine LeO.bind ?_ (fun _ => ?_))
theorem a1f.mono : ∀ a0 a1 a2 a3 k,LeO (a1f.f k a0 a1 a2 a3) (a1f.f (k + 1) a0 a1 a2 a3) := by
 intro a0 a1 a2 a3 k
 have a := a1f.a1h k
 unfold a1f.f
 with_reducible (repeat' first | apply a | apply LeO.refl | apply LeO.none | apply LeO.ite | refine LeO.bind ?_ (fun _ => ?_))
set_option maxHeartbeats 8000000 in
set_option maxRecDepth 100000 in
theorem a1f.calls (k : Nat) (A0 : Option Addr) (c0 : Nat) (l0 : List (S56))  (n : Nat) (g i j r : Int) (w : World) (q : Kd.C k56 w A0 l0.length l0) (s : l0.length ≤ c0) (t : w.heap[n]? = some (.cells #[.int .i64 g, .int .i64 i, .int .i64 j] 42 (0,0))) (h : a1f.f k l0 g i j = some r) :
  Calls Try.prog 59 #[.slice A0 l0.length c0, .func (.func 39) #[] #[.pointer (some ⟨n,0,none⟩)]] w fun e w' => e = .returned (.int .i64 r) ∧ Below w.heap.size w w' := by
 have B := Try.underlying56
 have u := am_ q
 have G := am_ s
 clear q s
 have b := am_ t
 clear t
 have HB := am_ (Below.refl w.heap.size w)
 have H : (a1f.l0 k l0 (l0.length : Int) 0 g i j) = some r := h
 clear h
 have H' := am_ H
 clear H
 go_enter Try.func59,Try.ntmps59
 go_wp2
 go_loopg [8] k (fun kq v8 w' => ∃ (a : Int),v8 = .int .i64 a ∧ Aside0 (a1f.l0 kq l0 (l0.length : Int) a g i j = some r) ∧ Aside0 (kq ≤ k) ∧ Aside0 (w'.heap[n]? = some (.cells #[.int .i64 g, .int .i64 i, .int .i64 j] 42 (0,0))) ∧ Aside0 (Below w.heap.size w w'))
 case atStart => exact ⟨(0),qs_,H',⟨Nat.le_refl _⟩,⟨qk_ b⟩,⟨qb_⟩⟩
 case round =>
 clear H'
 obtain ⟨a,rfl,HA,v,b,HB⟩ := hrel
 cases gk with
 | zero => exact absurd HA.out (by simp [a1f.l0])
 | succ k1 =>
 have H := HA.out
 clear HA
 simp only [a1f.l0] at H
 by_cases c4 : a < (l0.length : Int)
 rotate_left
 ·rw [if_neg c4] at H
  have y : decide (a < (l0.length : Int)) = false := decide_eq_false c4
  clear c4
  obtain rfl := si_ H
  go_wp2
  go_ret
  exact ⟨qx_,qb_⟩
 rw [if_pos c4] at H
 have y : decide (a < (l0.length : Int)) = true := decide_eq_true c4
 clear c4
 obtain ⟨D,H⟩ := qid_ H
 obtain ⟨E,H⟩ := qid_ H
 replace H := bm_ H
 obtain ⟨z,x,H⟩ := H
 have A7 := am_ x
 clear x
 by_cases c8 : z = true
 ·subst c8
  replace H := qip_ H
  obtain rfl := si_ H
  have l : 0 ≤ (a : Int) := ot_
  have m : a < (l0.length : Int) := ot_
  obtain ⟨p,o,c,d⟩ := a5k u.out a l m
  cases o
  replace c := qh_ HB c
  replace d := qh_ HB d
  replace l := eq_true l
  replace m := eq_true m
  go_wp2_with (first | (go_at_call 39;(with_reducible refine (a5c.calls ((a0h l0 a).f0) ((a0h l0 a).f1) n g i j true _ ?s1 A7.out).mono ?_);(case s1 => exact (qk_ b));rintro e w9 ⟨rfl,hb⟩;replace b := qkb_ b hb;replace HB := qbs_ hb;(try clear hb);(try clear A);(try clear hk);(try clear hi)))
  go_ret
  exact ⟨qx_,qb_⟩
 replace c8 := be_ c8
 subst c8
 replace H := qin_ H
 have H' := am_ H
 clear H
 have l : 0 ≤ (a : Int) := ot_
 have m : a < (l0.length : Int) := ot_
 obtain ⟨p,o,c,d⟩ := a5k u.out a l m
 cases o
 replace c := qh_ HB c
 replace d := qh_ HB d
 replace l := eq_true l
 replace m := eq_true m
 go_wp2_with (first | (go_at_call 39;(with_reducible refine (a5c.calls ((a0h l0 a).f0) ((a0h l0 a).f1) n g i j false _ ?s1 A7.out).mono ?_);(case s1 => exact (qk_ b));rintro e J ⟨rfl,hb⟩;replace b := qkb_ b hb;replace HB := qbs_ hb;(try clear hb);(try clear A);(try clear hk);(try clear hi)))
 go_roundg k1
 case measure => have := v.out;omega
 case rel => exact ⟨(wrap64 (a + 1)),qs_,H',⟨by have := v.out;omega⟩,⟨qk_ b⟩,⟨qb_⟩⟩
def a2u.f (k : Nat) (l0 : List (S56))  (a b c : Int) : Option (Bool) := (a1f.f k l0 a b c).bind fun d => (some (decide (d ≥ 0)))
theorem a2u.mono : ∀ a0 a1 a2 a3 k,LeO (a2u.f k a0 a1 a2 a3) (a2u.f (k + 1) a0 a1 a2 a3) := by
 intro a0 a1 a2 a3 k
 unfold a2u.f
 with_reducible (repeat' first | apply a1f.mono | apply LeO.refl | apply LeO.none | apply LeO.ite | refine LeO.bind ?_ (fun _ => ?_))
set_option maxHeartbeats 8000000 in
set_option maxRecDepth 100000 in
theorem a2u.calls (k : Nat) (A0 : Option Addr) (c0 : Nat) (l0 : List (S56))  (i : Nat) (a b c : Int) (r : Bool) (w : World) (j : Kd.C k56 w A0 l0.length l0) (l : l0.length ≤ c0) (m : w.heap[i]? = some (.cells #[.int .i64 a, .int .i64 b, .int .i64 c] 42 (0,0))) (h : a2u.f k l0 a b c = some r) :
  Calls Try.prog 38 #[.slice A0 l0.length c0, .func (.func 39) #[] #[.pointer (some ⟨i,0,none⟩)]] w fun e w' => e = .returned (.bool r) ∧ Below w.heap.size w w' := by
 have o := am_ j
 have p := am_ l
 clear j l
 have d := am_ m
 clear m
 have HB := am_ (Below.refl w.heap.size w)
 have H : ((a1f.f k l0 a b c).bind fun g => (some (decide (g ≥ 0)))) = some r := h
 clear h
 replace H := bm_ H
 obtain ⟨g,n,H⟩ := H
 have A4 := am_ n
 clear n
 obtain rfl := si_ H
 go_enter Try.func38,Try.ntmps38
 go_wp2_with (first | ((with_reducible refine a0r (f := 59) rfl ?_);refine a2a (some 7) rfl rfl Try.func59 (by kernel_rfl) rfl #[.slice A0 l0.length c0, .func (.func 39) #[] #[.pointer (some ⟨i,0,none⟩)]] rfl ql_ ?_;(with_reducible refine (a1f.calls k _ _ l0  i a b c g _ ?s1 p.out ?s3 A4.out).mono ?_);(case s1 => repeat (first | exact o.out | (with_reducible refine Kd.a1t ?_ _) | (with_reducible refine Kd.a1u ?_ _) | (with_reducible refine Kd.a2h ?_)));(case s3 => exact (qk_ d));rintro e w5 ⟨rfl,hb⟩;refine ⟨_,rfl,?_⟩;replace d := qkb_ d hb;replace HB := qbs_ hb;(try clear hb);(try clear q);(try clear hk);(try clear hi)))
 go_ret
 exact ⟨qx_,qb_⟩
def a3k.f (a0 c b d : Int) (l2 : List (S42)) (e : List (S51)) (a : List (Int × Int)) (g : List (Int × List (S56))) : Option (Bool) := if 0 ≤ (a1z a a0) then (if (a1z a a0) < (l2.length : Int) then (some (decide (b < ((a0b l2 (a1z a a0)).f2)))) else (none)) else (none)
def a3k.T1 : Bool × List (List Nat × List Nat) := (true,[([],[]),([0],[0]),([],[]),([],[]),([3],[3]),([],[]),([4,5],[4,5]),([2,6],[2,6]),([7],[7]),([8],[8]),([1,9],[1,9]),([10,0,1,2,3,4,5,6,7,8,9,10],[10])])
def a3k.B1 : List Nat := [0,1,0,0,8,0,56,124,252,508,1023,2047]
theorem a3k.tab1 : rtab .any (opsOf Try.f41 1) = a3k.T1 := by kernel_rfl
theorem a3k.a8h : a5i a3k.T1.2 a3k.B1 = true := by kernel_rfl
set_option maxHeartbeats 8000000 in
set_option maxRecDepth 100000 in
theorem a3k.calls (a0 : Int) (B : Nat) (a3 O a4 : Int) (L : Nat) (A2 : Option Addr) (c2 : Nat) (l2 : List (S42)) (D : Nat) (a5 : Option Addr) (a6 : Nat) (G : List (S51)) (a : List (Int × Int)) (ab : List (Int × List (S56))) (d g : Nat) (gh_a3_2 : List (Int × (List (S56) × Value))) (r : Bool) (w : World) (ac : Kd.C k42 w A2 l2.length l2) (ad : l2.length ≤ c2) (a9 : Kd.C k51 w a5 G.length G) (aa : G.length ≤ a6) (ae : w.heap[B]? = some (.cells #[.int .i64 a3, .int .i64 O, .int .i64 a4] 42 (0,0))) (af : w.heap[L]? = some (.cells #[.slice A2 l2.length c2] 24 (0,0))) (ag : w.heap[D]? = some (.cells #[.slice a5 G.length a6, .map (some d), .map (some g)] 62 (0,0))) (P : B ≠ L) (T : B ≠ D) (W : L ≠ D) (Y : w.heap[d]? = some (a1i (Value.int .i64) a)) (Z : w.heap[g]? = some (a1i (fun e_ : List (S56) × Value => e_.2) gh_a3_2)) (a1 : a5n gh_a3_2 = ab) (a2 : a5a k56 w gh_a3_2) (j : d ≠ g) (u : d ≠ B) (v : d ≠ L) (x : d ≠ D) (y : g ≠ B) (z : g ≠ L) (A : g ≠ D) (h : a3k.f a0 a3 O a4 l2 G a ab = some r) :
  Calls Try.prog 41 #[.int .i64 a0, .pointer (some ⟨B,0,none⟩), .pointer (some ⟨L,0,none⟩), .pointer (some ⟨D,0,none⟩)] w fun e w' => e = .returned (.bool r) ∧ Below w.heap.size w w' := by
 have aE := am_ ac
 have aL := am_ ad
 clear ac ad
 have aF := am_ a9
 have aG := am_ aa
 clear a9 aa
 have J := am_ Y
 clear Y
 have X := am_ Z
 clear Z
 have aH := am_ a1
 have aI := am_ a2
 clear a1 a2
 have ah := am_ j
 have ai := am_ j.symm
 clear j
 have aj := am_ u
 have ak := am_ u.symm
 clear u
 have al := am_ v
 have am := am_ v.symm
 clear v
 have an := am_ x
 have ao := am_ x.symm
 clear x
 have ap := am_ y
 have aq := am_ y.symm
 clear y
 have ar := am_ z
 have au := am_ z.symm
 clear z
 have av := am_ A
 have aw := am_ A.symm
 clear A
 have b := am_ ae
 clear ae
 have E := am_ af
 clear af
 have c := am_ ag
 clear ag
 have ax := am_ P
 have ay := am_ P.symm
 clear P
 have az := am_ T
 have aA := am_ T.symm
 clear T
 have aB := am_ W
 have aC := am_ W.symm
 clear W
 have HB := am_ (Below.refl w.heap.size w)
 have H : (if 0 ≤ (a1z a a0) then (if (a1z a a0) < (l2.length : Int) then (some (decide (O < ((a0b l2 (a1z a a0)).f2)))) else (none)) else (none)) = some r := h
 clear h
 obtain ⟨aJ,H⟩ := qid_ H
 obtain ⟨aK,H⟩ := qid_ H
 obtain rfl := si_ H
 go_enter Try.func41,Try.ntmps41
 try go_wp2
 replace J := am_ (bd_ J.out)
 replace X := am_ (bd_ X.out)
 replace b := am_ (bd_ b.out)
 replace E := am_ (bd_ E.out)
 replace c := am_ (bd_ c.out)
 replace HB := am_ (ld_ HB.out)
 have a7 : 0 ≤ ((a1z a a0) : Int) := ot_
 have a8 : (a1z a a0) < (l2.length : Int) := ot_
 obtain ⟨l,aD,m,o,p⟩ := a4h aE.out (a1z a a0) a7 a8
 have q := p
 have s := o
 have t := m
 cases aD
 replace m := qh_ HB m
 replace o := qh_ HB o
 replace p := qh_ HB p
 replace a7 := eq_true a7
 replace a8 := eq_true a8
 refine a4l (n := 12) (S := fun w' => w'.cell? ⟨B,0,none⟩ = some (.int .i64 a3) ∧ w'.cell? ⟨B,1,none⟩ = some (.int .i64 O) ∧ w'.cell? ⟨B,2,none⟩ = some (.int .i64 a4) ∧ w'.cell? ⟨L,0,none⟩ = some (.slice (some l) l2.length c2) ∧ w'.cell? ⟨D,0,none⟩ = some (.slice a5 G.length a6) ∧ w'.cell? ⟨D,1,none⟩ = some (.map (some d)) ∧ w'.cell? ⟨D,2,none⟩ = some (.map (some g)) ∧ w'.cell? (l.add (((a1z a a0)).toNat * 3)) = some (.int .i64 ((a0b l2 (a1z a a0)).f0)) ∧ w'.cell? ⟨(l.add (((a1z a a0)).toNat * 3)).block,(l.add (((a1z a a0)).toNat * 3)).off + 1,none⟩ = some (.int .i64 ((a0b l2 (a1z a a0)).f1)) ∧ w'.cell? ⟨(l.add (((a1z a a0)).toNat * 3)).block,(l.add (((a1z a a0)).toNat * 3)).off + 2,none⟩ = some (.int .i64 ((a0b l2 (a1z a a0)).f2))) (ds := []) #[I,I,I,I,I,I,I,I,I,I,I,I] (by kernel_rfl) rfl rfl ⟨(bc_ b.out 0).trans rfl,(bc_ b.out 1).trans rfl,(bc_ b.out 2).trans rfl,(bc_ E.out 0).trans rfl,(bc_ c.out 0).trans rfl,(bc_ c.out 1).trans rfl,(bc_ c.out 2).trans rfl,((HB.out.cell (World.block_lt_of_cell? w _ t)).trans t),((HB.out.cell (World.block_lt_of_cell? w _ s)).trans s),((HB.out.cell (World.block_lt_of_cell? w _ q)).trans q)⟩ (fun hHeld => ?_);refine a3s a3k.tab1 a3k.a8h (fun HT_ HW_ => ?_)
 generalize w.drew = w7 at J X b E c HB m o p hHeld ⊢
 refine qpu_ 0 (some 6) #[U,I,I,I,I,I,I,I,I,I,I,I] ?_
 refine qpu_ 3 (some 9) #[U,I,I,U,I,I,I,I,I,I,I,I] ?_
 refine qpu_ 5 (some 11) #[U,I,I,U,I,U,I,I,I,I,I,I] ?_
 refine b3w 1 (some 7) #[U,U,I,U,I,U,I,I,I,I,I,I] hHeld ?_
 refine b3w 2 (some 8) #[U,U,U,U,I,U,I,I,I,I,I,I] hHeld ?_
 refine b3w 4 (some 10) #[U,U,U,U,U,U,I,I,I,I,I,I] hHeld ?_
 refine one_ (i := 6) (N := some 12) #[U,U,U,U,U,U,U,I,I,I,I,I] rfl rfl (a4m HT_.out (by kernel_rfl)) (by decide) (fun K hK => ?_)
 refine b1a (by rfl) (N := 12) rfl rfl (M := a) (k := a0) Try.underlying59 Try.underlying3 (a7i _) (qk_ J) rfl ?hx ?_;(case hx => first | rfl | (go_simp;done) | (go_simp;rfl))
 refine hK.out _ _ ⟨(bc_ b.out 0).trans rfl,(bc_ b.out 1).trans rfl,(bc_ b.out 2).trans rfl,(bc_ E.out 0).trans rfl,(bc_ c.out 0).trans rfl,(bc_ c.out 1).trans rfl,(bc_ c.out 2).trans rfl,((HB.out.cell (World.block_lt_of_cell? w _ t)).trans t),((HB.out.cell (World.block_lt_of_cell? w _ s)).trans s),((HB.out.cell (World.block_lt_of_cell? w _ q)).trans q)⟩ (fun hHeld => ?_)
 clear hK K
 refine a4q (a' := ?_) ?_ ?_
 rotate_left
 ·show Act.put _ (some 12) _ = _
  exact qp_
 refine qpu_ 7 (some 13) #[U,U,U,U,U,U,U,U,I,I,I,I] ?_
 refine qpu_ 8 (some 14) #[U,U,U,U,U,U,U,U,U,I,I,I] ?_
 refine b3w 9 (some 15) #[U,U,U,U,U,U,U,U,U,U,I,I] hHeld ?_
 refine qpu_ 10 (some 16) #[U,U,U,U,U,U,U,U,U,U,U,I] ?_
 refine qpu_ 11 (some 5) #[U,U,U,U,U,U,U,U,U,U,U,U] ?_
 refine a4u (a4c HT_.out (by kernel_rfl)) ?_
 try go_wp2
 go_ret
 exact ⟨qx_,qb_⟩
def a0m.l0 : Nat → List Int → Int → Int → List (Int × Int) → List (Int × List (S56)) → Int → Int → Int → List (S42) → List (S51) → Option (Int)
 | 0,_,_,_,_,_,_,_,_,_,_ => none
 | k + 1,x0,x7,x8,u3,u4,u5,u6,u7,u8,u9 => if x8 < x7 then (if 0 ≤ x8 then (if x8 < (x0.length : Int) then ((a3k.f (rd x0 x8) u5 u6 u7 u8 u9 u3 u4).bind fun a => (if a = true then (some x8) else (a0m.l0 k x0 x7 (wrap64 (x8 + 1)) u3 u4 u5 u6 u7 u8 u9))) else (none)) else (none)) else (some (-1))
def a0m.f (k : Nat) (l0 : List Int)  (a b c : Int) (l3 : List (S42)) (d : List (S51)) (e : List (Int × Int)) (g : List (Int × List (S56))) : Option (Int) := a0m.l0 k l0 (l0.length : Int) 0 e g a b c l3 d
theorem a0m.a1h : ∀ k,(∀ y0 y1 y2 y3 y4 y5 y6 y7 y8 y9,LeO (a0m.l0 k y0 y1 y2 y3 y4 y5 y6 y7 y8 y9) (a0m.l0 (k + 1) y0 y1 y2 y3 y4 y5 y6 y7 y8 y9))
 | 0 => fun _ _ _ _ _ _ _ _ _ _ r h => by simp [a0m.l0] at h
 | k + 1 => by
  have a := a0m.a1h k
  intro y0 y1 y2 y3 y4 y5 y6 y7 y8 y9
  unfold a0m.l0
  with_reducible (repeat' first | apply a | apply LeO.refl | apply LeO.none | apply LeO.ite | refine LeO.bind ?_ (fun _ => ?_))
theorem a0m.mono : ∀ a0 a1 a2 a3 a4 a5 a6 a7 k,LeO (a0m.f k a0 a1 a2 a3 a4 a5 a6 a7) (a0m.f (k + 1) a0 a1 a2 a3 a4 a5 a6 a7) := by
 intro a0 a1 a2 a3 a4 a5 a6 a7 k
 have a := a0m.a1h k
 unfold a0m.f
 with_reducible (repeat' first | apply a | apply LeO.refl | apply LeO.none | apply LeO.ite | refine LeO.bind ?_ (fun _ => ?_))
set_option maxHeartbeats 8000000 in
set_option maxRecDepth 100000 in
theorem a0m.calls (k : Nat) (A0 : Option Addr) (c0 : Nat) (l0 : List Int)  (E : Nat) (p q s : Int) (G : Nat) (A3 : Option Addr) (c3 : Nat) (l3 : List (S42)) (J : Nat) (a1 : Option Addr) (a2 : Nat) (m : List (S51)) (t : List (Int × Int)) (K : List (Int × List (S56))) (a b : Nat) (gh_a4_2 : List (Int × (List (S56) × Value))) (r : Int) (w : World) (al : Kd.C (Kd.int .i64) w A0 l0.length l0) (am : l0.length ≤ c0) (an : Kd.C k42 w A3 l3.length l3) (ao : l3.length ≤ c3) (ae : Kd.C k51 w a1 m.length m) (af : m.length ≤ a2) (ap : w.heap[E]? = some (.cells #[.int .i64 p, .int .i64 q, .int .i64 s] 42 (0,0))) (aq : w.heap[G]? = some (.cells #[.slice A3 l3.length c3] 24 (0,0))) (ar : w.heap[J]? = some (.cells #[.slice a1 m.length a2, .map (some a), .map (some b)] 62 (0,0))) (a3 : E ≠ G) (a4 : E ≠ J) (a5 : G ≠ J) (a6 : w.heap[a]? = some (a1i (Value.int .i64) t)) (a7 : w.heap[b]? = some (a1i (fun e_ : List (S56) × Value => e_.2) gh_a4_2)) (a8 : a5n gh_a4_2 = K) (a9 : a5a k56 w gh_a4_2) (o : a ≠ b) (u : a ≠ E) (v : a ≠ G) (x : a ≠ J) (y : b ≠ E) (z : b ≠ G) (A : b ≠ J) (h : a0m.f k l0 p q s l3 m t K = some r) :
  Calls Try.prog 60 #[.slice A0 l0.length c0, .func (.func 41) #[] #[.pointer (some ⟨E,0,none⟩), .pointer (some ⟨G,0,none⟩), .pointer (some ⟨J,0,none⟩)]] w fun e w' => e = .returned (.int .i64 r) ∧ Below w.heap.size w w' := by
 have au := am_ al
 have aO := am_ am
 clear al am
 have av := am_ an
 have aw := am_ ao
 clear an ao
 have ag := am_ ae
 have ah := am_ af
 clear ae af
 have d := am_ a6
 clear a6
 have g := am_ a7
 clear a7
 have ai := am_ a8
 have aj := am_ a9
 clear a8 a9
 have L := am_ o
 have ax := am_ o.symm
 clear o
 have M := am_ u
 have ay := am_ u.symm
 clear u
 have O := am_ v
 have az := am_ v.symm
 clear v
 have P := am_ x
 have aA := am_ x.symm
 clear x
 have T := am_ y
 have aB := am_ y.symm
 clear y
 have W := am_ z
 have aC := am_ z.symm
 clear z
 have X := am_ A
 have aD := am_ A.symm
 clear A
 have i := am_ ap
 clear ap
 have j := am_ aq
 clear aq
 have l := am_ ar
 clear ar
 have Y := am_ a3
 have aE := am_ a3.symm
 clear a3
 have Z := am_ a4
 have aF := am_ a4.symm
 clear a4
 have a0 := am_ a5
 have aG := am_ a5.symm
 clear a5
 have HB := am_ (Below.refl w.heap.size w)
 have H : (a0m.l0 k l0 (l0.length : Int) 0 t K p q s l3 m) = some r := h
 clear h
 have H' := am_ H
 clear H
 go_enter Try.func60,Try.ntmps60
 go_wp2
 go_loopg [8] k (fun kq v8 w' => ∃ (c : Int),v8 = .int .i64 c ∧ Aside0 (a0m.l0 kq l0 (l0.length : Int) c t K p q s l3 m = some r) ∧ Aside0 (kq ≤ k) ∧ Aside0 (w'.heap[a]? = some (a1i (Value.int .i64) t)) ∧ Aside0 (w'.heap[b]? = some (a1i (fun e_ : List (S56) × Value => e_.2) gh_a4_2)) ∧ Aside0 (w'.heap[E]? = some (.cells #[.int .i64 p, .int .i64 q, .int .i64 s] 42 (0,0))) ∧ Aside0 (w'.heap[G]? = some (.cells #[(.slice A3 l3.length c3)] 24 (0,0))) ∧ Aside0 (w'.heap[J]? = some (.cells #[(.slice a1 m.length a2), .map (some a), .map (some b)] 62 (0,0))) ∧ Aside0 (Below w.heap.size w w'))
 case atStart => exact ⟨(0),qs_,H',⟨Nat.le_refl _⟩,⟨qk_ d⟩,⟨qk_ g⟩,⟨qk_ i⟩,⟨qk_ j⟩,⟨qk_ l⟩,⟨qb_⟩⟩
 case round =>
 clear H'
 try clear c3
 obtain ⟨c,rfl,HA,aH,d,g,i,j,l,HB⟩ := hrel
 cases gk with
 | zero => exact absurd HA.out (by simp [a0m.l0])
 | succ k1 =>
 have H := HA.out
 clear HA
 simp only [a0m.l0] at H
 by_cases c6 : c < (l0.length : Int)
 rotate_left
 ·rw [if_neg c6] at H
  have aJ : decide (c < (l0.length : Int)) = false := decide_eq_false c6
  clear c6
  obtain rfl := si_ H
  go_wp2
  go_ret
  exact ⟨qx_,qb_⟩
 rw [if_pos c6] at H
 have aJ : decide (c < (l0.length : Int)) = true := decide_eq_true c6
 clear c6
 obtain ⟨aM,H⟩ := qid_ H
 obtain ⟨aN,H⟩ := qid_ H
 replace H := bm_ H
 obtain ⟨aK,aI,H⟩ := H
 have A9 := am_ aI
 clear aI
 by_cases c10 : aK = true
 ·subst c10
  replace H := qip_ H
  obtain rfl := si_ H
  have B : 0 ≤ (c : Int) := ot_
  have D : c < (l0.length : Int) := ot_
  obtain ⟨ak,aa,n⟩ := Kd.a4t au.out c B D
  cases aa
  replace n := qh_ HB n
  replace B := eq_true B
  replace D := eq_true D
  go_wp2_with (first | (go_at_call 41;(with_reducible refine (a3k.calls (rd l0 c) E p q s G A3 c3 l3 J a1 a2 m t K a b gh_a4_2 true _ ?s1 aw.out ?s3 ah.out ?s5 ?s6 ?s7 ?s8 ?s9 ?s10 ?s11 ?s12 ?s13 ?s14 ?s15 ?s16 ?s17 ?s18 ?s19 ?s20 ?s21 A9.out).mono ?_);(case s1 => exact qc_ av);(case s3 => exact qc_ ag);(case s5 => exact (qk_ i));(case s6 => exact (qk_ j));(case s7 => exact (qk_ l));(case s8 => exact Y.out);(case s9 => exact Z.out);(case s10 => exact a0.out);(case s11 => exact (qk_ d));(case s12 => exact (qk_ g));(case s13 => exact ai.out);(case s14 => exact (fun e_ he_ => by obtain ⟨A_,c_,ab,ac,ad⟩ := aj.out e_ he_;have HRm_ := am_ ad;exact ⟨A_,c_,ab,ac,by repeat (first | exact (Kd.a2s HRm_.out HB.out) | (with_reducible refine Kd.a1t ?_ _) | (with_reducible refine Kd.a1u ?_ _) | (with_reducible refine Kd.a2h ?_))⟩));(case s15 => exact L.out);(case s16 => exact M.out);(case s17 => exact O.out);(case s18 => exact P.out);(case s19 => exact T.out);(case s20 => exact W.out);(case s21 => exact X.out);rintro e aP ⟨rfl,hb⟩;replace d := qkb_ d hb;replace g := qkb_ g hb;replace i := qkb_ i hb;replace j := qkb_ j hb;replace l := qkb_ l hb;replace HB := qbs_ hb;(try clear hb);(try clear aL);(try clear hk);(try clear hi)))
  go_ret
  exact ⟨qx_,qb_⟩
 replace c10 := be_ c10
 subst c10
 replace H := qin_ H
 have H' := am_ H
 clear H
 have B : 0 ≤ (c : Int) := ot_
 have D : c < (l0.length : Int) := ot_
 obtain ⟨ak,aa,n⟩ := Kd.a4t au.out c B D
 cases aa
 replace n := qh_ HB n
 replace B := eq_true B
 replace D := eq_true D
 go_wp2_with (first | (go_at_call 41;(with_reducible refine (a3k.calls (rd l0 c) E p q s G A3 c3 l3 J a1 a2 m t K a b gh_a4_2 false _ ?s1 aw.out ?s3 ah.out ?s5 ?s6 ?s7 ?s8 ?s9 ?s10 ?s11 ?s12 ?s13 ?s14 ?s15 ?s16 ?s17 ?s18 ?s19 ?s20 ?s21 A9.out).mono ?_);(case s1 => exact qc_ av);(case s3 => exact qc_ ag);(case s5 => exact (qk_ i));(case s6 => exact (qk_ j));(case s7 => exact (qk_ l));(case s8 => exact Y.out);(case s9 => exact Z.out);(case s10 => exact a0.out);(case s11 => exact (qk_ d));(case s12 => exact (qk_ g));(case s13 => exact ai.out);(case s14 => exact (fun e_ he_ => by obtain ⟨A_,c_,ab,ac,ad⟩ := aj.out e_ he_;have HRm_ := am_ ad;exact ⟨A_,c_,ab,ac,by repeat (first | exact (Kd.a2s HRm_.out HB.out) | (with_reducible refine Kd.a1t ?_ _) | (with_reducible refine Kd.a1u ?_ _) | (with_reducible refine Kd.a2h ?_))⟩));(case s15 => exact L.out);(case s16 => exact M.out);(case s17 => exact O.out);(case s18 => exact P.out);(case s19 => exact T.out);(case s20 => exact W.out);(case s21 => exact X.out);rintro e aQ ⟨rfl,hb⟩;replace d := qkb_ d hb;replace g := qkb_ g hb;replace i := qkb_ i hb;replace j := qkb_ j hb;replace l := qkb_ l hb;replace HB := qbs_ hb;(try clear hb);(try clear aL);(try clear hk);(try clear hi)))
 go_roundg k1
 case measure => have := aH.out;omega
 case rel => exact ⟨(wrap64 (c + 1)),qs_,H',⟨by have := aH.out;omega⟩,⟨qk_ d⟩,⟨qk_ g⟩,⟨qk_ i⟩,⟨qk_ j⟩,⟨qk_ l⟩,⟨qb_⟩⟩
end Go.Proofs.Ytheibjkjmkanoaa.Px
