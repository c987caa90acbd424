/- Contracts of Go functions, printed. Conditions: as each theorem states. -/
import Derived.Test.YtheibjkjmkanoaaPx0
namespace Go.Proofs.Ytheibjkjmkanoaa.Px
open Go.Proofs.Ytheibjkjmkanoaa.Given
open Go.RowKit Go.Proofs.YtheibjkjmkanoaaW.PrintWords Go.Proofs.YtheibjkjmkanoaaW.PrintLast Go.Proofs.YtheibjkjmkanoaaW.PrintMore
attribute [local go_sem] a3m a3n a3x a3y a3e a3f a3o a3p
set_option linter.unusedVariables false
set_option linter.unusedSimpArgs false
def a1r.l0 : Nat → List Int → Int → Int → Int → Option (Int)
 | 0,_,_,_,_ => none
 | k + 1,x0,x1,x7,x8 => if x8 < x7 then (if 0 ≤ x8 then (if x8 < (x0.length : Int) then (if x1 = (rd x0 x8) then (some x8) else (a1r.l0 k x0 x1 x7 (wrap64 (x8 + 1)))) else (none)) else (none)) else (some (-1))
def a1r.f (k : Nat) (l0 : List Int) (a1 : Int) : Option (Int) := a1r.l0 k l0 a1 (l0.length : Int) 0
theorem a1r.a1h : ∀ k,(∀ y0 y1 y2 y3,LeO (a1r.l0 k y0 y1 y2 y3) (a1r.l0 (k + 1) y0 y1 y2 y3))
 | 0 => fun _ _ _ _ r h => by simp [a1r.l0] at h
 | k + 1 => by
  have a := a1r.a1h k
  intro y0 y1 y2 y3
  unfold a1r.l0
  with_reducible (repeat' first | apply a | apply LeO.refl | apply LeO.none | apply LeO.ite | refine LeO.bind ?_ (fun _ => ?_))
theorem a1r.mono : ∀ a0 a1 k,LeO (a1r.f k a0 a1) (a1r.f (k + 1) a0 a1) := by
 intro a0 a1 k
 have a := a1r.a1h k
 unfold a1r.f
 with_reducible (repeat' first | apply a | apply LeO.refl | apply LeO.none | apply LeO.ite | refine LeO.bind ?_ (fun _ => ?_))
set_option maxHeartbeats 8000000 in
set_option maxRecDepth 100000 in
theorem a1r.calls (k : Nat) (A0 : Option Addr) (c0 : Nat) (l0 : List Int) (a1 r : Int) (w : World) (j : Kd.C (Kd.int .i64) w A0 l0.length l0) (l : l0.length ≤ c0) (h : a1r.f k l0 a1 = some r) :
  Calls Try.prog 65 #[.slice A0 l0.length c0, .int .i64 a1] w fun e w' => e = .returned (.int .i64 r) ∧ a3u w w' := by
 have m := am_ j
 have u := am_ l
 clear j l
 have H : (a1r.l0 k l0 a1 (l0.length : Int) 0) = some r := h
 clear h
 have H' := am_ H
 clear H
 go_enter Try.func65,Try.ntmps65
 go_wp2
 go_loopg [8] k (fun kq v8 w' => ∃ (a : Int),v8 = .int .i64 a ∧ Aside0 (a1r.l0 kq l0 a1 (l0.length : Int) a = some r) ∧ Aside0 (kq ≤ k) ∧ a3u w w')
 case atStart => exact ⟨(0),qs_,H',⟨Nat.le_refl _⟩,qy_⟩
 case round =>
 clear H'
 obtain ⟨a,rfl,HA,n,⟨m1,rfl⟩⟩ := hrel
 cases gk with
 | zero => exact absurd HA.out (by simp [a1r.l0])
 | succ k1 =>
 have H := HA.out
 clear HA
 simp only [a1r.l0] at H
 by_cases c3 : a < (l0.length : Int)
 rotate_left
 ·rw [if_neg c3] at H
  have o : decide (a < (l0.length : Int)) = false := decide_eq_false c3
  clear c3
  obtain rfl := si_ H
  go_wp2
  go_ret
  exact ⟨qs_,qy_⟩
 rw [if_pos c3] at H
 have o : decide (a < (l0.length : Int)) = true := decide_eq_true c3
 clear c3
 obtain ⟨s,H⟩ := qid_ H
 obtain ⟨t,H⟩ := qid_ H
 by_cases c6 : a1 = (rd l0 a)
 ·rw [if_pos c6] at H
  have p : (a1 == (rd l0 a)) = true := beq_iff_eq.mpr c6
  have q : (a1 != (rd l0 a)) = false := bne_eq_false_iff_eq.mpr c6
  clear c6
  obtain rfl := si_ H
  have b : 0 ≤ (a : Int) := ot_
  have c : a < (l0.length : Int) := ot_
  obtain ⟨i,d,g⟩ := Kd.a4t m.out a b c
  cases d
  replace b := eq_true b
  replace c := eq_true c
  go_wp2
  go_ret
  exact ⟨qs_,qy_⟩
 rw [if_neg c6] at H
 have p : (a1 == (rd l0 a)) = false := beq_eq_false_iff_ne.mpr c6
 have q : (a1 != (rd l0 a)) = true := bne_iff_ne.mpr c6
 have H' := am_ H
 clear H
 have b : 0 ≤ (a : Int) := ot_
 have c : a < (l0.length : Int) := ot_
 obtain ⟨i,d,g⟩ := Kd.a4t m.out a b c
 cases d
 replace b := eq_true b
 replace c := eq_true c
 go_wp2
 go_roundg k1
 case measure => have := n.out;omega
 case rel => exact ⟨(wrap64 (a + 1)),qs_,H',⟨by have := n.out;omega⟩,qy_⟩
def a2b.f (k : Nat) (l0 : List Int) (a1 : Int) : Option (Bool) := (a1r.f k l0 a1).bind fun a => (some (decide (a ≥ 0)))
theorem a2b.mono : ∀ a0 a1 k,LeO (a2b.f k a0 a1) (a2b.f (k + 1) a0 a1) := by
 intro a0 a1 k
 unfold a2b.f
 with_reducible (repeat' first | apply a1r.mono | apply LeO.refl | apply LeO.none | apply LeO.ite | refine LeO.bind ?_ (fun _ => ?_))
set_option maxHeartbeats 8000000 in
set_option maxRecDepth 100000 in
theorem a2b.calls (k : Nat) (A0 : Option Addr) (c0 : Nat) (l0 : List Int) (a1 : Int) (r : Bool) (w : World) (b : Kd.C (Kd.int .i64) w A0 l0.length l0) (c : l0.length ≤ c0) (h : a2b.f k l0 a1 = some r) :
  Calls Try.prog 48 #[.slice A0 l0.length c0, .int .i64 a1] w fun e w' => e = .returned (.bool r) ∧ a3u w w' := by
 have g := am_ b
 have i := am_ c
 clear b c
 have H : ((a1r.f k l0 a1).bind fun a => (some (decide (a ≥ 0)))) = some r := h
 clear h
 replace H := bm_ H
 obtain ⟨a,d,H⟩ := H
 have A3 := am_ d
 clear d
 obtain rfl := si_ H
 go_enter Try.func48,Try.ntmps48
 go_wp2_with (first | ((with_reducible refine a0r (f := 65) rfl ?_);refine a2a (some 7) rfl rfl Try.func65 (by kernel_rfl) rfl #[.slice A0 l0.length c0, .int .i64 a1] rfl ql_ ?_;(with_reducible refine (a1r.calls k _ _ l0 a1 a _ ?s1 i.out A3.out).mono ?_);(case s1 => repeat (first | exact g.out | (with_reducible refine Kd.a1t ?_ _) | (with_reducible refine Kd.a1u ?_ _) | (with_reducible refine Kd.a2h ?_)));rintro e w' ⟨rfl,⟨nd,rfl⟩⟩;refine ⟨_,rfl,?_⟩))
 go_ret
 exact ⟨qs_,qy_⟩
def a3h.f (k : Nat) (a0 : Int) (l1 : List Int) : Option (Bool) := (a2b.f k l1 a0).bind fun a => (some a)
theorem a3h.mono : ∀ a0 a1 k,LeO (a3h.f k a0 a1) (a3h.f (k + 1) a0 a1) := by
 intro a0 a1 k
 unfold a3h.f
 with_reducible (repeat' first | apply a2b.mono | apply LeO.refl | apply LeO.none | apply LeO.ite | refine LeO.bind ?_ (fun _ => ?_))
set_option maxHeartbeats 8000000 in
set_option maxRecDepth 100000 in
theorem a3h.calls (k : Nat) (a0 : Int) (c : Nat) (A1 : Option Addr) (c1 : Nat) (l1 : List Int) (r : Bool) (w : World) (d : Kd.C (Kd.int .i64) w A1 l1.length l1) (g : l1.length ≤ c1) (i : w.heap[c]? = some (.cells #[.slice A1 l1.length c1] 25 (0,0))) (h : a3h.f k a0 l1 = some r) :
  Calls Try.prog 80 #[.int .i64 a0, .pointer (some ⟨c,0,none⟩)] w fun e w' => e = .returned (.bool r) ∧ a3u w w' := by
 have l := am_ d
 have m := am_ g
 clear d g
 have b := am_ i
 clear i
 have H : ((a2b.f k l1 a0).bind fun a => (some a)) = some r := h
 clear h
 replace H := bm_ H
 obtain ⟨a,j,H⟩ := H
 have A3 := am_ j
 clear j
 obtain rfl := si_ H
 have n : w.cell? ⟨c,0,none⟩ = some (.slice A1 l1.length c1) := (bc_ b.out 0).trans rfl
 have o := bf_ b.out 0
 go_enter Try.func80,Try.ntmps80
 go_wp2_with (first | ((with_reducible refine a0r (f := 48) rfl ?_);refine a2a (some 6) rfl rfl Try.func48 (by kernel_rfl) rfl #[.slice A1 l1.length c1, .int .i64 a0] rfl ql_ ?_;(with_reducible refine (a2b.calls k _ _ l1 a0 a _ ?s1 m.out A3.out).mono ?_);(case s1 => repeat (first | exact l.out | (with_reducible refine Kd.a1t ?_ _) | (with_reducible refine Kd.a1u ?_ _) | (with_reducible refine Kd.a2h ?_)));rintro e w' ⟨rfl,⟨nd,rfl⟩⟩;refine ⟨_,rfl,?_⟩))
 go_ret
 exact ⟨qs_,qy_⟩
def a0i.l0 : Nat → List Int → Int → Int → List Int → Option (Int)
 | 0,_,_,_,_ => none
 | k + 1,x0,x7,x8,u0 => if x8 < x7 then (if 0 ≤ x8 then (if x8 < (x0.length : Int) then ((a3h.f k (rd x0 x8) u0).bind fun a => (if a = true then (some x8) else (a0i.l0 k x0 x7 (wrap64 (x8 + 1)) u0))) else (none)) else (none)) else (some (-1))
def a0i.f (k : Nat) (l0 : List Int)  (l2 : List Int) : Option (Int) := a0i.l0 k l0 (l0.length : Int) 0 l2
theorem a0i.a1h : ∀ k,(∀ y0 y1 y2 y3,LeO (a0i.l0 k y0 y1 y2 y3) (a0i.l0 (k + 1) y0 y1 y2 y3))
 | 0 => fun _ _ _ _ r h => by simp [a0i.l0] at h
 | k + 1 => by
  have a := a0i.a1h k
  intro y0 y1 y2 y3
  unfold a0i.l0
  with_reducible (repeat' first | apply a | apply a3h.mono | apply LeO.refl | apply LeO.none | apply LeO.ite | refine LeO.bind ?_ (fun _ => ?_))
theorem a0i.mono : ∀ a0 a1 k,LeO (a0i.f k a0 a1) (a0i.f (k + 1) a0 a1) := by
 intro a0 a1 k
 have a := a0i.a1h k
 unfold a0i.f
 with_reducible (repeat' first | apply a | apply a3h.mono | apply LeO.refl | apply LeO.none | apply LeO.ite | refine LeO.bind ?_ (fun _ => ?_))
set_option maxHeartbeats 8000000 in
set_option maxRecDepth 100000 in
theorem a0i.calls (k : Nat) (A0 : Option Addr) (c0 : Nat) (l0 : List Int)  (g : Nat) (A2 : Option Addr) (c2 : Nat) (l2 : List Int) (r : Int) (w : World) (m : Kd.C (Kd.int .i64) w A0 l0.length l0) (n : l0.length ≤ c0) (o : Kd.C (Kd.int .i64) w A2 l2.length l2) (p : l2.length ≤ c2) (q : w.heap[g]? = some (.cells #[.slice A2 l2.length c2] 25 (0,0))) (h : a0i.f k l0 l2 = some r) :
  Calls Try.prog 60 #[.slice A0 l0.length c0, .func (.func 80) #[] #[.pointer (some ⟨g,0,none⟩)]] w fun e w' => e = .returned (.int .i64 r) ∧ a3u w w' := by
 have s := am_ m
 have D := am_ n
 clear m n
 have t := am_ o
 have u := am_ p
 clear o p
 have d := am_ q
 clear q
 have H : (a0i.l0 k l0 (l0.length : Int) 0 l2) = some r := h
 clear h
 have H' := am_ H
 clear H
 go_enter Try.func60,Try.ntmps60
 go_wp2
 go_loopg [8] k (fun kq v8 w' => ∃ (a : Int),v8 = .int .i64 a ∧ Aside0 (a0i.l0 kq l0 (l0.length : Int) a l2 = some r) ∧ Aside0 (kq ≤ k) ∧ Aside0 (w'.heap[g]? = some (.cells #[(.slice A2 l2.length c2)] 25 (0,0))) ∧ a3u w w')
 case atStart => exact ⟨(0),qs_,H',⟨Nat.le_refl _⟩,⟨qk_ d⟩,qy_⟩
 case round =>
 clear H'
 try clear c2
 obtain ⟨a,rfl,HA,v,d,⟨m1,rfl⟩⟩ := hrel
 cases gk with
 | zero => exact absurd HA.out (by simp [a0i.l0])
 | succ k1 =>
 have H := HA.out
 clear HA
 simp only [a0i.l0] at H
 by_cases c4 : a < (l0.length : Int)
 rotate_left
 ·rw [if_neg c4] at H
  have y : decide (a < (l0.length : Int)) = false := decide_eq_false c4
  clear c4
  obtain rfl := si_ H
  go_wp2
  go_ret
  exact ⟨qs_,qy_⟩
 rw [if_pos c4] at H
 have y : decide (a < (l0.length : Int)) = true := decide_eq_true c4
 clear c4
 obtain ⟨A,H⟩ := qid_ H
 obtain ⟨B,H⟩ := qid_ H
 replace H := bm_ H
 obtain ⟨z,x,H⟩ := H
 have A7 := am_ x
 clear x
 by_cases c8 : z = true
 ·subst c8
  replace H := qip_ H
  obtain rfl := si_ H
  have b : 0 ≤ (a : Int) := ot_
  have c : a < (l0.length : Int) := ot_
  obtain ⟨l,i,j⟩ := Kd.a4t s.out a b c
  cases i
  replace b := eq_true b
  replace c := eq_true c
  go_wp2_with (first | (go_at_call 80;(with_reducible refine (a3h.calls k1 (rd l0 a) g A2 c2 l2 true _ ?s1 u.out ?s3 A7.out).mono ?_);(case s1 => repeat (first | exact t.out | (with_reducible refine Kd.a1t ?_ _) | (with_reducible refine Kd.a1u ?_ _) | (with_reducible refine Kd.a2h ?_)));(case s3 => exact (qk_ d));rintro e w' ⟨rfl,⟨nd,rfl⟩⟩))
  go_ret
  exact ⟨qs_,qy_⟩
 replace c8 := be_ c8
 subst c8
 replace H := qin_ H
 have H' := am_ H
 clear H
 have b : 0 ≤ (a : Int) := ot_
 have c : a < (l0.length : Int) := ot_
 obtain ⟨l,i,j⟩ := Kd.a4t s.out a b c
 cases i
 replace b := eq_true b
 replace c := eq_true c
 go_wp2_with (first | (go_at_call 80;(with_reducible refine (a3h.calls k1 (rd l0 a) g A2 c2 l2 false _ ?s1 u.out ?s3 A7.out).mono ?_);(case s1 => repeat (first | exact t.out | (with_reducible refine Kd.a1t ?_ _) | (with_reducible refine Kd.a1u ?_ _) | (with_reducible refine Kd.a2h ?_)));(case s3 => exact (qk_ d));rintro e w' ⟨rfl,⟨nd,rfl⟩⟩))
 go_roundg k1
 case measure => have := v.out;omega
 case rel => exact ⟨(wrap64 (a + 1)),qs_,H',⟨by have := v.out;omega⟩,⟨qk_ d⟩,qy_⟩
def a1x.f (k : Nat) (l0 : List Int)  (l2 : List Int) : Option (Bool) := (a0i.f k l0 l2).bind fun a => (some (decide (a ≥ 0)))
theorem a1x.mono : ∀ a0 a1 k,LeO (a1x.f k a0 a1) (a1x.f (k + 1) a0 a1) := by
 intro a0 a1 k
 unfold a1x.f
 with_reducible (repeat' first | apply a0i.mono | apply LeO.refl | apply LeO.none | apply LeO.ite | refine LeO.bind ?_ (fun _ => ?_))
set_option maxHeartbeats 8000000 in
set_option maxRecDepth 100000 in
theorem a1x.calls (k : Nat) (A0 : Option Addr) (c0 : Nat) (l0 : List Int)  (b : Nat) (A2 : Option Addr) (c2 : Nat) (l2 : List Int) (r : Bool) (w : World) (d : Kd.C (Kd.int .i64) w A0 l0.length l0) (g : l0.length ≤ c0) (i : Kd.C (Kd.int .i64) w A2 l2.length l2) (j : l2.length ≤ c2) (l : w.heap[b]? = some (.cells #[.slice A2 l2.length c2] 25 (0,0))) (h : a1x.f k l0 l2 = some r) :
  Calls Try.prog 40 #[.slice A0 l0.length c0, .func (.func 80) #[] #[.pointer (some ⟨b,0,none⟩)]] w fun e w' => e = .returned (.bool r) ∧ a3u w w' := by
 have n := am_ d
 have o := am_ g
 clear d g
 have p := am_ i
 have q := am_ j
 clear i j
 have c := am_ l
 clear l
 have H : ((a0i.f k l0 l2).bind fun a => (some (decide (a ≥ 0)))) = some r := h
 clear h
 replace H := bm_ H
 obtain ⟨a,m,H⟩ := H
 have A4 := am_ m
 clear m
 obtain rfl := si_ H
 go_enter Try.func40,Try.ntmps40
 go_wp2_with (first | ((with_reducible refine a0r (f := 60) rfl ?_);refine a2a (some 7) rfl rfl Try.func60 (by kernel_rfl) rfl #[.slice A0 l0.length c0, .func (.func 80) #[] #[.pointer (some ⟨b,0,none⟩)]] rfl ql_ ?_;(with_reducible refine (a0i.calls k _ _ l0  b A2 c2 l2 a _ ?s1 o.out ?s3 q.out ?s5 A4.out).mono ?_);(case s1 => repeat (first | exact n.out | (with_reducible refine Kd.a1t ?_ _) | (with_reducible refine Kd.a1u ?_ _) | (with_reducible refine Kd.a2h ?_)));(case s3 => repeat (first | exact p.out | (with_reducible refine Kd.a1t ?_ _) | (with_reducible refine Kd.a1u ?_ _) | (with_reducible refine Kd.a2h ?_)));(case s5 => exact (qk_ c));rintro e w' ⟨rfl,⟨nd,rfl⟩⟩;refine ⟨_,rfl,?_⟩))
 go_ret
 exact ⟨qs_,qy_⟩
def a4i.f (k : Nat) (l0 l1 : List Int) : Option (Bool) := (a1x.f k l0 l1).bind fun a => (some a)
theorem a4i.mono : ∀ a0 a1 k,LeO (a4i.f k a0 a1) (a4i.f (k + 1) a0 a1) := by
 intro a0 a1 k
 unfold a4i.f
 with_reducible (repeat' first | apply a1x.mono | apply LeO.refl | apply LeO.none | apply LeO.ite | refine LeO.bind ?_ (fun _ => ?_))
set_option maxHeartbeats 8000000 in
set_option maxRecDepth 100000 in
theorem a4i.calls (k : Nat) (A0 : Option Addr) (c0 : Nat) (l0 : List Int) (A1 : Option Addr) (c1 : Nat) (l1 : List Int) (r : Bool) (w : World) (d : Kd.C (Kd.int .i64) w A0 l0.length l0) (g : l0.length ≤ c0) (i : Kd.C (Kd.int .i64) w A1 l1.length l1) (j : l1.length ≤ c1) (h : a4i.f k l0 l1 = some r) :
  Calls Try.prog 75 #[.slice A0 l0.length c0, .slice A1 l1.length c1] w fun e w' => e = .returned (.bool r) ∧ Below w.heap.size w w' := by
 have m := am_ d
 have n := am_ g
 clear d g
 have o := am_ i
 have p := am_ j
 clear i j
 have HB := am_ (Below.refl w.heap.size w)
 have H : ((a1x.f k l0 l1).bind fun a => (some a)) = some r := h
 clear h
 replace H := bm_ H
 obtain ⟨a,l,H⟩ := H
 have A3 := am_ l
 clear l
 obtain rfl := si_ H
 go_enter Try.func75,Try.ntmps75
 go_wp2_with (first | ((with_reducible refine a0t (N := 3) rfl ?_);refine qev_ 3 #[.slice A1 l1.length c1] 25 ?_;intro b hg w4 hbox hb;have c := am_ (hbox);have q := qga_ hg;have s := qga_ hg;replace HB := qbs_ hb;clear hb hbox hg) | ((with_reducible refine a0r (f := 40) rfl ?_);refine a2a (some 7) rfl rfl Try.func40 (by kernel_rfl) rfl #[.slice A0 l0.length c0, .func (.func 80) #[] #[.pointer (some ⟨b,0,none⟩)]] rfl ql_ ?_;(with_reducible refine (a1x.calls k _ _ l0  b A1 c1 l1 a _ ?s1 n.out ?s3 p.out ?s5 A3.out).mono ?_);(case s1 => exact qc_ m);(case s3 => exact qc_ o);(case s5 => exact (qk_ c));rintro e w' ⟨rfl,⟨nd,rfl⟩⟩;refine ⟨_,rfl,?_⟩))
 go_ret
 exact ⟨qx_,qb_⟩
def a5p.f (k : Nat) (g a h : Int) (i b : List Int) (j c l : Int) (m d : List Int) : Option (Bool) := if a = c then (some true) else ((a4i.f k b d).bind fun e => (some e))
theorem a5p.mono : ∀ a0 a1 a2 a3 a4 a5 a6 a7 a8 a9 k,LeO (a5p.f k a0 a1 a2 a3 a4 a5 a6 a7 a8 a9) (a5p.f (k + 1) a0 a1 a2 a3 a4 a5 a6 a7 a8 a9) := by
 intro a0 a1 a2 a3 a4 a5 a6 a7 a8 a9 k
 unfold a5p.f
 with_reducible (repeat' first | apply a4i.mono | apply LeO.refl | apply LeO.none | apply LeO.ite | refine LeO.bind ?_ (fun _ => ?_))
set_option maxHeartbeats 8000000 in
set_option maxRecDepth 100000 in
theorem a5p.calls (k : Nat) (o b p : Int) (q : Option Addr) (s : Nat) (m : List Int) (t : Option Addr) (u : Nat) (d : List Int) (v c x : Int) (y : Option Addr) (z : Nat) (n : List Int) (A : Option Addr) (B : Nat) (g : List Int) (r : Bool) (w : World) (E : Kd.C (Kd.int .i64) w q m.length m) (G : m.length ≤ s) (J : Kd.C (Kd.int .i64) w t d.length d) (K : d.length ≤ u) (L : Kd.C (Kd.int .i64) w y n.length n) (M : n.length ≤ z) (O : Kd.C (Kd.int .i64) w A g.length g) (P : g.length ≤ B) (h : a5p.f k o b p m d v c x n g = some r) :
  Calls Try.prog 63 #[.agg #[.int .i64 o, .int .i64 b, .int .i64 p, .slice q m.length s, .slice t d.length u], .agg #[.int .i64 v, .int .i64 c, .int .i64 x, .slice y n.length z, .slice A g.length B]] w fun e w' => e = .returned (.bool r) ∧ Below w.heap.size w w' := by
 have aU := Try.underlying51
 have au := am_ E
 have av := am_ G
 clear E G
 have T := am_ J
 have W := am_ K
 clear J K
 have aw := am_ L
 have ax := am_ M
 clear L M
 have X := am_ O
 have Y := am_ P
 clear O P
 have HB := am_ (Below.refl w.heap.size w)
 have H : (if b = c then (some true) else ((a4i.f k d g).bind fun D => (some D))) = some r := h
 clear h
 by_cases c3 : b = c
 ·rw [if_pos c3] at H
  have a6 : (b == c) = true := beq_iff_eq.mpr c3
  have a7 : (b != c) = false := bne_eq_false_iff_eq.mpr c3
  clear c3
  obtain rfl := si_ H
  go_enter Try.func63,Try.ntmps63
  go_wp2_with (first | ((with_reducible refine a0t (N := 2) rfl ?_);refine qev_ 2 #[.int .i64 o, .int .i64 b, .int .i64 p, .slice q m.length s, .slice t d.length u] 51 ?_;intro Z hg w4 hbox hb;have a := am_ (hbox);have a0 := qga_ hg;have a1 := qga_ hg;replace HB := qbs_ hb;clear hb hbox hg) | ((with_reducible refine a0t (N := 3) rfl ?_);refine qev_ 3 #[.int .i64 v, .int .i64 c, .int .i64 x, .slice y n.length z, .slice A g.length B] 51 ?_;intro a2 hg w5 hbox hb;have i := am_ (hbox);have a3 := qga_ hg;have a4 := qga_ hg;replace HB := qbs_ hb;obtain ⟨j,l⟩ := qnb_ hg a;replace a := qkb_ a hb;clear hb hbox hg;have aV := j.out;have aW := l.out;obtain ⟨ay,az,aA,aB,aC⟩ := qz5_ a;obtain ⟨aD,aE,aF,aG,aH⟩ := qf5_ a;obtain ⟨aI,aJ,aK,aL,aM⟩ := qz5_ i;obtain ⟨aN,aO,aP,aQ,aR⟩ := qf5_ i))
  go_ret
  exact ⟨qx_,qb_⟩
 rw [if_neg c3] at H
 have a6 : (b == c) = false := beq_eq_false_iff_ne.mpr c3
 have a7 : (b != c) = true := bne_iff_ne.mpr c3
 replace H := bm_ H
 obtain ⟨D,a5,H⟩ := H
 have A9 := am_ a5
 clear a5
 obtain rfl := si_ H
 go_enter Try.func63,Try.ntmps63
 go_wp2_with (first | ((with_reducible refine a0t (N := 2) rfl ?_);refine qev_ 2 #[.int .i64 o, .int .i64 b, .int .i64 p, .slice q m.length s, .slice t d.length u] 51 ?_;intro Z hg aX hbox hb;have a := am_ (hbox);have a0 := qga_ hg;have a1 := qga_ hg;replace HB := qbs_ hb;clear hb hbox hg) | ((with_reducible refine a0t (N := 3) rfl ?_);refine qev_ 3 #[.int .i64 v, .int .i64 c, .int .i64 x, .slice y n.length z, .slice A g.length B] 51 ?_;intro a2 hg aY hbox hb;have i := am_ (hbox);have a3 := qga_ hg;have a4 := qga_ hg;replace HB := qbs_ hb;obtain ⟨j,l⟩ := qnb_ hg a;replace a := qkb_ a hb;clear hb hbox hg;have aS := j.out;have aT := l.out;obtain ⟨a8,a9,aa,ab,ac⟩ := qz5_ a;obtain ⟨ad,ae,af,ag,ah⟩ := qf5_ a;obtain ⟨ai,aj,ak,al,am⟩ := qz5_ i;obtain ⟨an,ao,ap,aq,ar⟩ := qf5_ i) | (go_at_call 75;(with_reducible refine (a4i.calls k _ _ d _ _ g D _ ?s1 W.out ?s3 Y.out A9.out).mono ?_);(case s1 => exact qc_ T);(case s3 => exact qc_ X);rintro e aZ ⟨rfl,hb⟩;replace a := qkb_ a hb;replace i := qkb_ i hb;replace HB := qbs_ hb;(try clear hb);(try clear b0);(try clear hk);(try clear hi)))
 go_ret
 exact ⟨qx_,qb_⟩
end Go.Proofs.Ytheibjkjmkanoaa.Px
