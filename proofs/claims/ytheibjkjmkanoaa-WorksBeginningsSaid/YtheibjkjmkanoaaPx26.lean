/- Contracts of Go functions, printed. Conditions: as each theorem states. -/
import Derived.Test.YtheibjkjmkanoaaPx0
namespace Go.Proofs.Ytheibjkjmkanoaa.Px
open Go.Proofs.Ytheibjkjmkanoaa.Given
open Go.RowKit Go.Proofs.YtheibjkjmkanoaaW.PrintWords Go.Proofs.YtheibjkjmkanoaaW.PrintLast Go.Proofs.YtheibjkjmkanoaaW.PrintMore
attribute [local go_sem] a3r a3s a4e a4f a3k a3l a3t a3u
set_option linter.unusedVariables false
set_option linter.unusedSimpArgs false
def a2b.l0 : Nat → List (S56) → Int → Int → Int → Option (Bool)
 | 0,_,_,_,_ => none
 | k + 1,x0,x1,x2,x7 => if x7 < (x0.length : Int) then (if 0 ≤ x7 then (if ((a0h x0 x7).f0) ≤ x1 then (if x2 ≤ ((a0h x0 x7).f1) then (some true) else (a2b.l0 k x0 x1 x2 (wrap64 (x7 + 1)))) else (a2b.l0 k x0 x1 x2 (wrap64 (x7 + 1)))) else (none)) else (some false)
def a2b.f (k : Nat) (l0 : List (S56)) (a1 a2 : Int) : Option (Bool) := a2b.l0 k l0 a1 a2 0
theorem a2b.a1t : ∀ k,(∀ y0 y1 y2 y3,LeO (a2b.l0 k y0 y1 y2 y3) (a2b.l0 (k + 1) y0 y1 y2 y3))
 | 0 => fun _ _ _ _ r h => by simp [a2b.l0] at h
 | k + 1 => by
  have a := a2b.a1t k
  intro y0 y1 y2 y3
  unfold a2b.l0
  with_reducible (repeat' first | apply a | apply LeO.refl | apply LeO.none | apply LeO.ite | refine LeO.bind ?_ (fun _ => ?_))
theorem a2b.mono : ∀ a0 a1 a2 k,LeO (a2b.f k a0 a1 a2) (a2b.f (k + 1) a0 a1 a2) := by
 intro a0 a1 a2 k
 have a := a2b.a1t k
 unfold a2b.f
 with_reducible (repeat' first | apply a | apply LeO.refl | apply LeO.none | apply LeO.ite | refine LeO.bind ?_ (fun _ => ?_))
set_option maxHeartbeats 8000000 in
set_option maxRecDepth 100000 in
theorem a2b.calls (k : Nat) (A0 : Option Addr) (c0 : Nat) (l0 : List (S56)) (a1 a2 : Int) (r : Bool) (w : World) (u : Kd.C k56 w A0 l0.length l0) (v : l0.length ≤ c0) (h : a2b.f k l0 a1 a2 = some r) :
  Calls Try.prog 44 #[.slice A0 l0.length c0, .int .i64 a1, .int .i64 a2] w fun e w' => e = .returned (.bool r) ∧ a3v w w' := by
 have o := am_ u
 have B := am_ v
 clear u v
 have H : (a2b.l0 k l0 a1 a2 0) = some r := h
 clear h
 have H' := am_ H
 clear H
 go_enter Try.func44,Try.ntmps44
 go_wp2
 go_loopg [7] k (fun kq v7 w' => ∃ (a : Int),v7 = .int .i64 a ∧ Aside0 (a2b.l0 kq l0 a1 a2 a = some r) ∧ Aside0 (kq ≤ k) ∧ a3v w w')
 case atStart => exact ⟨(0),qs_,H',⟨Nat.le_refl _⟩,qy_⟩
 case round =>
 clear H'
 obtain ⟨a,rfl,HA,q,⟨m1,rfl⟩⟩ := hrel
 cases gk with
 | zero => exact absurd HA.out (by simp [a2b.l0])
 | succ k1 =>
 have H := HA.out
 clear HA
 simp only [a2b.l0] at H
 by_cases c4 : a < (l0.length : Int)
 rotate_left
 ·rw [if_neg c4] at H
  have x : decide (a < (l0.length : Int)) = false := decide_eq_false c4
  clear c4
  obtain rfl := si_ H
  go_wp2
  go_ret
  exact ⟨qs_,qy_⟩
 rw [if_pos c4] at H
 have x : decide (a < (l0.length : Int)) = true := decide_eq_true c4
 clear c4
 obtain ⟨A,H⟩ := qid_ H
 by_cases c6 : ((a0h l0 a).f0) ≤ a1
 rotate_left
 ·rw [if_neg c6] at H
  have y : decide (((a0h l0 a).f0) ≤ a1) = false := decide_eq_false c6
  clear c6
  have H' := am_ H
  clear H
  have b : 0 ≤ (a : Int) := ot_
  have c : a < (l0.length : Int) := ot_
  obtain ⟨i,j,l,m⟩ := a5d o.out a b c
  cases j
  replace b := eq_true b
  replace c := eq_true c
  go_wp2
  go_roundg k1
  case measure => have := q.out;omega
  case rel => exact ⟨(wrap64 (a + 1)),qs_,H',⟨by have := q.out;omega⟩,qy_⟩
 rw [if_pos c6] at H
 have y : decide (((a0h l0 a).f0) ≤ a1) = true := decide_eq_true c6
 clear c6
 by_cases c7 : a2 ≤ ((a0h l0 a).f1)
 ·rw [if_pos c7] at H
  have z : decide (a2 ≤ ((a0h l0 a).f1)) = true := decide_eq_true c7
  clear c7
  obtain rfl := si_ H
  have b : 0 ≤ (a : Int) := ot_
  have c : a < (l0.length : Int) := ot_
  obtain ⟨i,j,l,m⟩ := a5d o.out a b c
  cases j
  replace b := eq_true b
  replace c := eq_true c
  have d : 0 ≤ (a : Int) := ot_
  have g : a < (l0.length : Int) := ot_
  obtain ⟨n,p,s,t⟩ := a5d o.out a d g
  obtain rfl : i = n := (by injection p)
  replace d := eq_true d
  replace g := eq_true g
  go_wp2
  go_ret
  exact ⟨qs_,qy_⟩
 rw [if_neg c7] at H
 have z : decide (a2 ≤ ((a0h l0 a).f1)) = false := decide_eq_false c7
 clear c7
 have H' := am_ H
 clear H
 have b : 0 ≤ (a : Int) := ot_
 have c : a < (l0.length : Int) := ot_
 obtain ⟨i,j,l,m⟩ := a5d o.out a b c
 cases j
 replace b := eq_true b
 replace c := eq_true c
 have d : 0 ≤ (a : Int) := ot_
 have g : a < (l0.length : Int) := ot_
 obtain ⟨n,p,s,t⟩ := a5d o.out a d g
 obtain rfl : i = n := (by injection p)
 replace d := eq_true d
 replace g := eq_true g
 go_wp2
 go_roundg k1
 case measure => have := q.out;omega
 case rel => exact ⟨(wrap64 (a + 1)),qs_,H',⟨by have := q.out;omega⟩,qy_⟩
def a2c.l0 : Nat → List Int → Int → Int → Option (Bool)
 | 0,_,_,_ => none
 | k + 1,x0,x1,x5 => if x5 < (x0.length : Int) then (if 0 ≤ x5 then (if (rd x0 x5) = x1 then (some true) else (a2c.l0 k x0 x1 (wrap64 (x5 + 1)))) else (none)) else (some false)
def a2c.f (k : Nat) (l0 : List Int) (a1 : Int) : Option (Bool) := a2c.l0 k l0 a1 0
theorem a2c.a1t : ∀ k,(∀ y0 y1 y2,LeO (a2c.l0 k y0 y1 y2) (a2c.l0 (k + 1) y0 y1 y2))
 | 0 => fun _ _ _ r h => by simp [a2c.l0] at h
 | k + 1 => by
  have a := a2c.a1t k
  intro y0 y1 y2
  unfold a2c.l0
  with_reducible (repeat' first | apply a | apply LeO.refl | apply LeO.none | apply LeO.ite | refine LeO.bind ?_ (fun _ => ?_))
theorem a2c.mono : ∀ a0 a1 k,LeO (a2c.f k a0 a1) (a2c.f (k + 1) a0 a1) := by
 intro a0 a1 k
 have a := a2c.a1t k
 unfold a2c.f
 with_reducible (repeat' first | apply a | apply LeO.refl | apply LeO.none | apply LeO.ite | refine LeO.bind ?_ (fun _ => ?_))
set_option maxHeartbeats 8000000 in
set_option maxRecDepth 100000 in
theorem a2c.calls (k : Nat) (A0 : Option Addr) (c0 : Nat) (l0 : List Int) (a1 : Int) (r : Bool) (w : World) (j : Kd.C (Kd.int .i64) w A0 l0.length l0) (l : l0.length ≤ c0) (h : a2c.f k l0 a1 = some r) :
  Calls Try.prog 52 #[.slice A0 l0.length c0, .int .i64 a1] w fun e w' => e = .returned (.bool r) ∧ a3v w w' := by
 have m := am_ j
 have t := am_ l
 clear j l
 have H : (a2c.l0 k l0 a1 0) = some r := h
 clear h
 have H' := am_ H
 clear H
 go_enter Try.func52,Try.ntmps52
 go_wp2
 go_loopg [5] k (fun kq v5 w' => ∃ (a : Int),v5 = .int .i64 a ∧ Aside0 (a2c.l0 kq l0 a1 a = some r) ∧ Aside0 (kq ≤ k) ∧ a3v w w')
 case atStart => exact ⟨(0),qs_,H',⟨Nat.le_refl _⟩,qy_⟩
 case round =>
 clear H'
 obtain ⟨a,rfl,HA,n,⟨m1,rfl⟩⟩ := hrel
 cases gk with
 | zero => exact absurd HA.out (by simp [a2c.l0])
 | succ k1 =>
 have H := HA.out
 clear HA
 simp only [a2c.l0] at H
 by_cases c3 : a < (l0.length : Int)
 rotate_left
 ·rw [if_neg c3] at H
  have o : decide (a < (l0.length : Int)) = false := decide_eq_false c3
  clear c3
  obtain rfl := si_ H
  go_wp2
  go_ret
  exact ⟨qs_,qy_⟩
 rw [if_pos c3] at H
 have o : decide (a < (l0.length : Int)) = true := decide_eq_true c3
 clear c3
 obtain ⟨s,H⟩ := qid_ H
 by_cases c5 : (rd l0 a) = a1
 ·rw [if_pos c5] at H
  have p : ((rd l0 a) == a1) = true := beq_iff_eq.mpr c5
  have q : ((rd l0 a) != a1) = false := bne_eq_false_iff_eq.mpr c5
  clear c5
  obtain rfl := si_ H
  have b : 0 ≤ (a : Int) := ot_
  have c : a < (l0.length : Int) := ot_
  obtain ⟨i,d,g⟩ := Kd.a4q m.out a b c
  cases d
  replace b := eq_true b
  replace c := eq_true c
  go_wp2
  go_ret
  exact ⟨qs_,qy_⟩
 rw [if_neg c5] at H
 have p : ((rd l0 a) == a1) = false := beq_eq_false_iff_ne.mpr c5
 have q : ((rd l0 a) != a1) = true := bne_iff_ne.mpr c5
 have H' := am_ H
 clear H
 have b : 0 ≤ (a : Int) := ot_
 have c : a < (l0.length : Int) := ot_
 obtain ⟨i,d,g⟩ := Kd.a4q m.out a b c
 cases d
 replace b := eq_true b
 replace c := eq_true c
 go_wp2
 go_roundg k1
 case measure => have := n.out;omega
 case rel => exact ⟨(wrap64 (a + 1)),qs_,H',⟨by have := n.out;omega⟩,qy_⟩
def a2o.l0 : Nat → Int → Int → Int → Int → List Int → List Int → Int → Int → Int → List Int → List Int → Option (Bool)
 | 0,_,_,_,_,_,_,_,_,_,_,_ => none
 | k + 1,x5,u0,u1,u2,u3,u4,u5,u6,u7,u8,u9 => if x5 < (u4.length : Int) then (if 0 ≤ x5 then ((a2c.f k u9 (rd u4 x5)).bind fun a => (if a = true then (some true) else (a2o.l0 k (wrap64 (x5 + 1)) u0 u1 u2 u3 u4 u5 u6 u7 u8 u9))) else (none)) else (some false)
def a2o.f (k : Nat) (c a d : Int) (e g : List Int) (h b i : Int) (j l : List Int) : Option (Bool) := if a = b then (some true) else (a2o.l0 k 0 c a d e g h b i j l)
theorem a2o.a1t : ∀ k,(∀ y0 y1 y2 y3 y4 y5 y6 y7 y8 y9 a,LeO (a2o.l0 k y0 y1 y2 y3 y4 y5 y6 y7 y8 y9 a) (a2o.l0 (k + 1) y0 y1 y2 y3 y4 y5 y6 y7 y8 y9 a))
 | 0 => fun _ _ _ _ _ _ _ _ _ _ _ r h => by simp [a2o.l0] at h
 | k + 1 => by
  have b := a2o.a1t k
  intro y0 y1 y2 y3 y4 y5 y6 y7 y8 y9 a
  unfold a2o.l0
  with_reducible (repeat' first | apply b | apply a2c.mono | apply LeO.refl | apply LeO.none | apply LeO.ite | refine LeO.bind ?_ (fun _ => ?_))
theorem a2o.mono : ∀ a0 a1 a2 a3 a4 a5 a6 a7 a8 a9 k,LeO (a2o.f k a0 a1 a2 a3 a4 a5 a6 a7 a8 a9) (a2o.f (k + 1) a0 a1 a2 a3 a4 a5 a6 a7 a8 a9) := by
 intro a0 a1 a2 a3 a4 a5 a6 a7 a8 a9 k
 have a := a2o.a1t k
 unfold a2o.f
 with_reducible (repeat' first | apply a | apply a2c.mono | apply LeO.refl | apply LeO.none | apply LeO.ite | refine LeO.bind ?_ (fun _ => ?_))
set_option maxHeartbeats 8000000 in
set_option maxRecDepth 100000 in
theorem a2o.calls (k : Nat) (p l q : Int) (v : Option Addr) (x : Nat) (n : List Int) (y : Option Addr) (z : Nat) (g : List Int) (s m t : Int) (A : Option Addr) (B : Nat) (o : List Int) (D : Option Addr) (E : Nat) (i : List Int) (r : Bool) (w : World) (aH : Kd.C (Kd.int .i64) w v n.length n) (aI : n.length ≤ x) (aJ : Kd.C (Kd.int .i64) w y g.length g) (aK : g.length ≤ z) (aL : Kd.C (Kd.int .i64) w A o.length o) (aM : o.length ≤ B) (aN : Kd.C (Kd.int .i64) w D i.length i) (aO : i.length ≤ E) (h : a2o.f k p l q n g s m t o i = some r) :
  Calls Try.prog 64 #[.agg #[.int .i64 p, .int .i64 l, .int .i64 q, .slice v n.length x, .slice y g.length z], .agg #[.int .i64 s, .int .i64 m, .int .i64 t, .slice A o.length B, .slice D i.length E]] w fun e w' => e = .returned (.bool r) ∧ Below w.heap.size w w' := by
 have cc := Try.underlying51
 have bS := am_ aH
 have bT := am_ aI
 clear aH aI
 have aP := am_ aJ
 have bU := am_ aK
 clear aJ aK
 have bV := am_ aL
 have bW := am_ aM
 clear aL aM
 have G := am_ aN
 have I := am_ aO
 clear aN aO
 have HB := am_ (Below.refl w.heap.size w)
 have H : (if l = m then (some true) else (a2o.l0 k 0 p l q n g s m t o i)) = some r := h
 clear h
 by_cases c3 : l = m
 ·rw [if_pos c3] at H
  have aT : (l == m) = true := beq_iff_eq.mpr c3
  have aU : (l != m) = false := bne_eq_false_iff_eq.mpr c3
  clear c3
  obtain rfl := si_ H
  go_enter Try.func64,Try.ntmps64
  go_wp2_with (first | ((with_reducible refine a1d (N := 2) rfl ?_);refine qev_ 2 #[.int .i64 p, .int .i64 l, .int .i64 q, .slice v n.length x, .slice y g.length z] 51 ?_;intro J hg w4 hbox hb;have a := am_ (hbox);have O := qga_ hg;have P := qga_ hg;replace HB := qbs_ hb;clear hb hbox hg) | ((with_reducible refine a1d (N := 3) rfl ?_);refine qev_ 3 #[.int .i64 s, .int .i64 m, .int .i64 t, .slice A o.length B, .slice D i.length E] 51 ?_;intro K hg w5 hbox hb;have d := am_ (hbox);have T := qga_ hg;have U := qga_ hg;replace HB := qbs_ hb;obtain ⟨b,c⟩ := qnb_ hg a;replace a := qkb_ a hb;clear hb hbox hg;have aV := b.out;have aW := c.out;obtain ⟨ak,al,am,an,ao⟩ := qz5_ a;obtain ⟨ap,aq,ar,au,av⟩ := qf5_ a;obtain ⟨aw,ax,ay,az,aA⟩ := qz5_ d;obtain ⟨aB,aC,aD,aE,aF⟩ := qf5_ d))
  repeat (go_quiet (first | ((with_reducible refine a1d (N := 2) rfl ?_);refine qev_ 2 #[.int .i64 p, .int .i64 l, .int .i64 q, .slice v n.length x, .slice y g.length z] 51 ?_;intro J hg w4 hbox hb;have a := am_ (hbox);have O := qga_ hg;have P := qga_ hg;replace HB := qbs_ hb;clear hb hbox hg) | ((with_reducible refine a1d (N := 3) rfl ?_);refine qev_ 3 #[.int .i64 s, .int .i64 m, .int .i64 t, .slice A o.length B, .slice D i.length E] 51 ?_;intro K hg w5 hbox hb;have d := am_ (hbox);have T := qga_ hg;have U := qga_ hg;replace HB := qbs_ hb;obtain ⟨b,c⟩ := qnb_ hg a;replace a := qkb_ a hb;clear hb hbox hg;have aV := b.out;have aW := c.out;obtain ⟨ak,al,am,an,ao⟩ := qz5_ a;obtain ⟨ap,aq,ar,au,av⟩ := qf5_ a;obtain ⟨aw,ax,ay,az,aA⟩ := qz5_ d;obtain ⟨aB,aC,aD,aE,aF⟩ := qf5_ d));try go_wp2_with (first | ((with_reducible refine a1d (N := 2) rfl ?_);refine qev_ 2 #[.int .i64 p, .int .i64 l, .int .i64 q, .slice v n.length x, .slice y g.length z] 51 ?_;intro J hg w4 hbox hb;have a := am_ (hbox);have O := qga_ hg;have P := qga_ hg;replace HB := qbs_ hb;clear hb hbox hg) | ((with_reducible refine a1d (N := 3) rfl ?_);refine qev_ 3 #[.int .i64 s, .int .i64 m, .int .i64 t, .slice A o.length B, .slice D i.length E] 51 ?_;intro K hg w5 hbox hb;have d := am_ (hbox);have T := qga_ hg;have U := qga_ hg;replace HB := qbs_ hb;obtain ⟨b,c⟩ := qnb_ hg a;replace a := qkb_ a hb;clear hb hbox hg;have aV := b.out;have aW := c.out;obtain ⟨ak,al,am,an,ao⟩ := qz5_ a;obtain ⟨ap,aq,ar,au,av⟩ := qf5_ a;obtain ⟨aw,ax,ay,az,aA⟩ := qz5_ d;obtain ⟨aB,aC,aD,aE,aF⟩ := qf5_ d)))
  go_ret
  exact ⟨qx_,qb_⟩
 rw [if_neg c3] at H
 have aT : (l == m) = false := beq_eq_false_iff_ne.mpr c3
 have aU : (l != m) = true := bne_iff_ne.mpr c3
 have H' := am_ H
 clear H
 go_enter Try.func64,Try.ntmps64
 go_wp2_with (first | ((with_reducible refine a1d (N := 2) rfl ?_);refine qev_ 2 #[.int .i64 p, .int .i64 l, .int .i64 q, .slice v n.length x, .slice y g.length z] 51 ?_;intro J hg w9 hbox hb;have a := am_ (hbox);have O := qga_ hg;have P := qga_ hg;replace HB := qbs_ hb;clear hb hbox hg) | ((with_reducible refine a1d (N := 3) rfl ?_);refine qev_ 3 #[.int .i64 s, .int .i64 m, .int .i64 t, .slice A o.length B, .slice D i.length E] 51 ?_;intro K hg b0 hbox hb;have d := am_ (hbox);have T := qga_ hg;have U := qga_ hg;replace HB := qbs_ hb;obtain ⟨b,c⟩ := qnb_ hg a;replace a := qkb_ a hb;clear hb hbox hg;have aQ := b.out;have aR := c.out;obtain ⟨W,X,a0,a1,a2⟩ := qz5_ a;obtain ⟨a3,a4,a5,a6,a7⟩ := qf5_ a;obtain ⟨a8,a9,aa,ab,ac⟩ := qz5_ d;obtain ⟨ad,ae,af,ag,ah⟩ := qf5_ d))
 repeat (go_quiet (first | ((with_reducible refine a1d (N := 2) rfl ?_);refine qev_ 2 #[.int .i64 p, .int .i64 l, .int .i64 q, .slice v n.length x, .slice y g.length z] 51 ?_;intro J hg w9 hbox hb;have a := am_ (hbox);have O := qga_ hg;have P := qga_ hg;replace HB := qbs_ hb;clear hb hbox hg) | ((with_reducible refine a1d (N := 3) rfl ?_);refine qev_ 3 #[.int .i64 s, .int .i64 m, .int .i64 t, .slice A o.length B, .slice D i.length E] 51 ?_;intro K hg b0 hbox hb;have d := am_ (hbox);have T := qga_ hg;have U := qga_ hg;replace HB := qbs_ hb;obtain ⟨b,c⟩ := qnb_ hg a;replace a := qkb_ a hb;clear hb hbox hg;have aQ := b.out;have aR := c.out;obtain ⟨W,X,a0,a1,a2⟩ := qz5_ a;obtain ⟨a3,a4,a5,a6,a7⟩ := qf5_ a;obtain ⟨a8,a9,aa,ab,ac⟩ := qz5_ d;obtain ⟨ad,ae,af,ag,ah⟩ := qf5_ d));try go_wp2_with (first | ((with_reducible refine a1d (N := 2) rfl ?_);refine qev_ 2 #[.int .i64 p, .int .i64 l, .int .i64 q, .slice v n.length x, .slice y g.length z] 51 ?_;intro J hg w9 hbox hb;have a := am_ (hbox);have O := qga_ hg;have P := qga_ hg;replace HB := qbs_ hb;clear hb hbox hg) | ((with_reducible refine a1d (N := 3) rfl ?_);refine qev_ 3 #[.int .i64 s, .int .i64 m, .int .i64 t, .slice A o.length B, .slice D i.length E] 51 ?_;intro K hg b0 hbox hb;have d := am_ (hbox);have T := qga_ hg;have U := qga_ hg;replace HB := qbs_ hb;obtain ⟨b,c⟩ := qnb_ hg a;replace a := qkb_ a hb;clear hb hbox hg;have aQ := b.out;have aR := c.out;obtain ⟨W,X,a0,a1,a2⟩ := qz5_ a;obtain ⟨a3,a4,a5,a6,a7⟩ := qf5_ a;obtain ⟨a8,a9,aa,ab,ac⟩ := qz5_ d;obtain ⟨ad,ae,af,ag,ah⟩ := qf5_ d)))
 go_loopg [5] k (fun kq v5 w' => ∃ (j : Int),v5 = .int .i64 j ∧ Aside0 (a2o.l0 kq j p l q n g s m t o i = some r) ∧ Aside0 (kq ≤ k) ∧ Aside0 (w'.heap[J]? = some (.cells #[.int .i64 p, .int .i64 l, .int .i64 q,(.slice v n.length x),(.slice y g.length z)] 51 (0,0))) ∧ Aside0 (w'.heap[K]? = some (.cells #[.int .i64 s, .int .i64 m, .int .i64 t,(.slice A o.length B),(.slice D i.length E)] 51 (0,0))) ∧ Aside0 (Below w.heap.size w w'))
 case atStart => exact ⟨(0),qs_,H',⟨Nat.le_refl _⟩,⟨qk_ a⟩,⟨qk_ d⟩,⟨qb_⟩⟩
 case round =>
 clear H'
 try clear aT
 try clear aU
 try clear W X a0 a1 a2
 try clear a8 a9 aa ab ac
 try clear ak al am an ao
 try clear aw ax ay az aA
 try clear a3 a4 a5 a6 a7
 try clear ad ae af ag ah
 try clear ap aq ar au av
 try clear aB aC aD aE aF
 obtain ⟨j,rfl,HA,b1,a,d,HB⟩ := hrel
 cases gk with
 | zero => exact absurd HA.out (by simp [a2o.l0])
 | succ k1 =>
 have H := HA.out
 clear HA
 simp only [a2o.l0] at H
 by_cases ai : j < (g.length : Int)
 rotate_left
 ·rw [if_neg ai] at H
  have aY : decide (j < (g.length : Int)) = false := decide_eq_false ai
  clear ai
  obtain rfl := si_ H
  have bX := b.out
  have bY := c.out
  obtain ⟨b3,b4,b5,b6,b7⟩ := qz5_ a;obtain ⟨b8,b9,ba,bb,bc⟩ := qf5_ a
  go_wp2
  repeat (go_quiet (fail);try go_wp2)
  go_ret
  exact ⟨qx_,qb_⟩
 rw [if_pos ai] at H
 have aY : decide (j < (g.length : Int)) = true := decide_eq_true ai
 clear ai
 obtain ⟨bZ,H⟩ := qid_ H
 replace H := bm_ H
 obtain ⟨b2,aX,H⟩ := H
 have aj := am_ aX
 clear aX
 by_cases aS : b2 = true
 ·subst aS
  replace H := qip_ H
  obtain rfl := si_ H
  have c0 := b.out
  have c1 := c.out
  obtain ⟨bd,be,bf,bg,bh⟩ := qz5_ a;obtain ⟨bi,bj,bk,bl,bm⟩ := qf5_ a
  obtain ⟨bn,bo,bp,bq,br⟩ := qz5_ d;obtain ⟨bs,bt,bu,bv,bw⟩ := qf5_ d
  have L : 0 ≤ (j : Int) := ot_
  have M : j < (g.length : Int) := ot_
  obtain ⟨aZ,aG,u⟩ := Kd.a4q aP.out j L M
  cases aG
  replace u := qh_ HB u
  replace L := eq_true L
  replace M := eq_true M
  go_wp2_with (first | (go_at_call 52;(with_reducible refine (a2c.calls k1 _ _ i (rd g j) true _ ?s1 I.out aj.out).mono ?_);(case s1 => exact qc_ G);rintro e w' ⟨rfl,⟨nd,rfl⟩⟩;(try exact qw_)))
  repeat (go_quiet (first | (go_at_call 52;(with_reducible refine (a2c.calls k1 _ _ i (rd g j) true _ ?s1 I.out aj.out).mono ?_);(case s1 => exact qc_ G);rintro e w' ⟨rfl,⟨nd,rfl⟩⟩;(try exact qw_)));try go_wp2_with (first | (go_at_call 52;(with_reducible refine (a2c.calls k1 _ _ i (rd g j) true _ ?s1 I.out aj.out).mono ?_);(case s1 => exact qc_ G);rintro e w' ⟨rfl,⟨nd,rfl⟩⟩;(try exact qw_))))
  go_ret
  exact ⟨qx_,qb_⟩
 replace aS := be_ aS
 subst aS
 replace H := qin_ H
 have H' := am_ H
 clear H
 have ca := b.out
 have cb := c.out
 obtain ⟨bx,bz,bA,bB,bC⟩ := qz5_ a;obtain ⟨bD,bE,bF,bG,bH⟩ := qf5_ a
 obtain ⟨bI,bJ,bK,bL,bM⟩ := qz5_ d;obtain ⟨bN,bO,bP,bQ,bR⟩ := qf5_ d
 have L : 0 ≤ (j : Int) := ot_
 have M : j < (g.length : Int) := ot_
 obtain ⟨aZ,aG,u⟩ := Kd.a4q aP.out j L M
 cases aG
 replace u := qh_ HB u
 replace L := eq_true L
 replace M := eq_true M
 go_wp2_with (first | (go_at_call 52;(with_reducible refine (a2c.calls k1 _ _ i (rd g j) false _ ?s1 I.out aj.out).mono ?_);(case s1 => exact qc_ G);rintro e w' ⟨rfl,⟨nd,rfl⟩⟩;(try exact qw_)))
 repeat (go_quiet (first | (go_at_call 52;(with_reducible refine (a2c.calls k1 _ _ i (rd g j) false _ ?s1 I.out aj.out).mono ?_);(case s1 => exact qc_ G);rintro e w' ⟨rfl,⟨nd,rfl⟩⟩;(try exact qw_)));try go_wp2_with (first | (go_at_call 52;(with_reducible refine (a2c.calls k1 _ _ i (rd g j) false _ ?s1 I.out aj.out).mono ?_);(case s1 => exact qc_ G);rintro e w' ⟨rfl,⟨nd,rfl⟩⟩;(try exact qw_))))
 go_roundg k1
 case measure => have := b1.out;omega
 case rel => exact ⟨(wrap64 (j + 1)),qs_,H',⟨by have := b1.out;omega⟩,⟨qk_ a⟩,⟨qk_ d⟩,⟨qb_⟩⟩
end Go.Proofs.Ytheibjkjmkanoaa.Px
/- Contracts of Go functions, written by a program of this session's own (wip/tools/myprint.py) out of the translation: each Go function does what the Lean function of its name says. Conditions: as each theorem states. -/
namespace Go.Proofs.Ytheibjkjmkanoaa.Px
open Go.Proofs.Ytheibjkjmkanoaa.Given
open Go.RowKit Go.Proofs.YtheibjkjmkanoaaW.PrintWords Go.Proofs.YtheibjkjmkanoaaW.PrintLast Go.Proofs.YtheibjkjmkanoaaW.PrintMore
attribute [local go_sem] a3r a3s a4e a4f a3k a3l a3t a3u
set_option linter.unusedVariables false
set_option linter.unusedSimpArgs false
mutual
def a0o.l0 : Nat → List (S51) → Int → Int → Int → List (S42) → Int → Option (Bool)
 | 0,_,_,_,_,_,_ => none
 | k + 1,x0,x1,x2,x3,x4,a => if a < (x4.length : Int) then (if a = x1 then (a0o.j1 k x0 x1 x2 x3 x4 a false) else (if 0 ≤ a then (if ((a0b x4 a).f2) > 0 then (if ((a0b x4 a).f1) < x3 then (a0o.j1 k x0 x1 x2 x3 x4 a (decide (x2 < ((a0b x4 a).f2)))) else (a0o.j1 k x0 x1 x2 x3 x4 a false)) else (a0o.j1 k x0 x1 x2 x3 x4 a false)) else (none))) else (some false)
def a0o.j1 : Nat → List (S51) → Int → Int → Int → List (S42) → Int → Bool → Option (Bool)
 | 0,_,_,_,_,_,_,_ => none
 | k + 1,x0,x1,x2,x3,x4,a,c => if c = true then (if 0 ≤ x1 then (if x1 < (x0.length : Int) then (if 0 ≤ a then (if a < (x0.length : Int) then ((a2o.f k ((a0a x0 x1).f0) ((a0a x0 x1).f1) ((a0a x0 x1).f2) ((a0a x0 x1).f3) ((a0a x0 x1).f4) ((a0a x0 a).f0) ((a0a x0 a).f1) ((a0a x0 a).f2) ((a0a x0 a).f3) ((a0a x0 a).f4)).bind fun b => (if b = true then (some true) else (a0o.l0 k x0 x1 x2 x3 x4 (wrap64 (a + 1))))) else (none)) else (none)) else (none)) else (none)) else (a0o.l0 k x0 x1 x2 x3 x4 (wrap64 (a + 1)))
end
def a0o.f (k : Nat) (l0 : List (S51)) (a1 a2 a3 : Int) (l4 : List (S42)) : Option (Bool) := a0o.l0 k l0 a1 a2 a3 l4 0
theorem a0o.a1t : ∀ k,(∀ y0 y1 y2 y3 y4 y5,LeO (a0o.l0 k y0 y1 y2 y3 y4 y5) (a0o.l0 (k + 1) y0 y1 y2 y3 y4 y5)) ∧ (∀ y0 y1 y2 y3 y4 y5 y6,LeO (a0o.j1 k y0 y1 y2 y3 y4 y5 y6) (a0o.j1 (k + 1) y0 y1 y2 y3 y4 y5 y6))
 | 0 => ⟨fun _ _ _ _ _ _ r h => by simp [a0o.l0] at h,fun _ _ _ _ _ _ _ r h => by simp [a0o.j1] at h⟩
 | k + 1 => by
  obtain ⟨a,b⟩ := a0o.a1t k
  refine ⟨?_,?_⟩ <;> intros <;> (first | unfold a0o.l0 | unfold a0o.j1) <;> with_reducible (repeat' first | apply a | apply b | apply a2o.mono | apply LeO.refl | apply LeO.none | apply LeO.ite | refine LeO.bind ?_ (fun _ => ?_))
theorem a0o.mono : ∀ a0 a1 a2 a3 a4 k,LeO (a0o.f k a0 a1 a2 a3 a4) (a0o.f (k + 1) a0 a1 a2 a3 a4) := by
 intro a0 a1 a2 a3 a4 k
 obtain ⟨a,b⟩ := a0o.a1t k
 unfold a0o.f
 with_reducible (repeat' first | apply a | apply b | apply a2o.mono | apply LeO.refl | apply LeO.none | apply LeO.ite | refine LeO.bind ?_ (fun _ => ?_))
def a0o.T5 : Bool × List (List Nat × List Nat) := (true,[([],[]),([],[]),([0,1],[0,1]),([2],[2]),([],[]),([],[]),([4,5],[4,5]),([6],[6]),([3,7],[3,7]),([8,8,0,1,2,3,4,5,6,7,8],[8])])
def a0o.B5 : List Nat := [0,0,3,7,0,0,48,112,255,511]
theorem a0o.tab5 : rtab .any (opsOf Try.f45 5) = a0o.T5 := by kernel_rfl
theorem a0o.c2n : a5l a0o.T5.2 a0o.B5 = true := by kernel_rfl
set_option maxHeartbeats 8000000 in
set_option maxRecDepth 100000 in
theorem a0o.calls (k : Nat) (A0 : Option Addr) (c0 : Nat) (l0 : List (S51)) (a1 a2 a3 : Int) (A4 : Option Addr) (c4 : Nat) (l4 : List (S42)) (r : Bool) (w : World) (aZ : Kd.C k51 w A0 l0.length l0) (b0 : l0.length ≤ c0) (b1 : Kd.C k42 w A4 l4.length l4) (b2 : l4.length ≤ c4) (h : a0o.f k l0 a1 a2 a3 l4 = some r) :
  Calls Try.prog 45 #[.slice A0 l0.length c0, .int .i64 a1, .int .i64 a2, .int .i64 a3, .slice A4 l4.length c4] w fun e w' => e = .returned (.bool r) ∧ Below w.heap.size w w' := by
 have be := Try.underlying51
 have aN := am_ aZ
 have bf := am_ b0
 clear aZ b0
 have aE := am_ b1
 have bg := am_ b2
 clear b1 b2
 have HB := am_ (Below.refl w.heap.size w)
 have H : (a0o.l0 k l0 a1 a2 a3 l4 0) = some r := h
 clear h
 have H' := am_ H
 clear H
 go_enter Try.func45,Try.ntmps45
 go_wp2
 go_loopg [11] k (fun kq b7 w' => ∃ (a : Int),b7 = .int .i64 a ∧ Aside0 (a0o.l0 kq l0 a1 a2 a3 l4 a = some r) ∧ Aside0 (kq ≤ k) ∧ Aside0 (Below w.heap.size w w'))
 case atStart => exact ⟨(0),qs_,H',⟨Nat.le_refl _⟩,⟨qb_⟩⟩
 case round =>
 clear H'
 try clear c4
 obtain ⟨a,rfl,HA,aB,HB⟩ := hrel
 cases gk with
 | zero => exact absurd HA.out (by simp [a0o.l0])
 | succ k1 =>
 have H := HA.out
 clear HA
 simp only [a0o.l0] at H
 by_cases c6 : a < (l4.length : Int)
 rotate_left
 ·rw [if_neg c6] at H
  have aU : decide (a < (l4.length : Int)) = false := decide_eq_false c6
  clear c6
  obtain rfl := si_ H
  go_wp2
  go_ret
  exact ⟨qx_,qb_⟩
 rw [if_pos c6] at H
 have aU : decide (a < (l4.length : Int)) = true := decide_eq_true c6
 clear c6
 have aV := am_ H
 clear H
 go_upto_region 4 with (fail)
 go_cut [47] (fun b8 wc => ∃ (kq : Nat) (aC : Bool),b8 = .bool aC ∧ Aside0 (a0o.j1 kq l0 a1 a2 a3 l4 a aC = some r) ∧ Aside0 (kq ≤ k1) ∧ Aside0 (Below w.heap.size w wc))
 case first =>
  have H := aV.out
  clear aV
  by_cases c8 : a = a1
  ·rw [if_pos c8] at H
   have ar : (a == a1) = true := beq_iff_eq.mpr c8
   have aW : (a != a1) = false := bne_eq_false_iff_eq.mpr c8
   clear c8
   (first | rw [ar] | (simp only [a4m,a4v];rw [ar]) | skip)
   have H' := am_ H
   clear H
   go_wp2
   go_meet
   case rel => exact ⟨_,(false),qs_,H',⟨by have := aB.out;first | omega | exact Nat.le_refl _⟩,⟨qb_⟩⟩
  rw [if_neg c8] at H
  have ar : (a == a1) = false := beq_eq_false_iff_ne.mpr c8
  have aW : (a != a1) = true := bne_iff_ne.mpr c8
  (first | rw [ar] | (simp only [a4m,a4v];rw [ar]) | skip)
  obtain ⟨b4,H⟩ := qid_ H
  by_cases c10 : ((a0b l4 a).f2) > 0
  rotate_left
  ·rw [if_neg c10] at H
   have aO : decide (0 < ((a0b l4 a).f2)) = false := decide_eq_false c10
   clear c10
   have H' := am_ H
   clear H
   have L : 0 ≤ (a : Int) := ot_
   have M : a < (l4.length : Int) := ot_
   obtain ⟨aq,aD,c,d,g⟩ := a3o aE.out a L M
   cases aD
   replace c := qh_ HB c
   replace d := qh_ HB d
   replace g := qh_ HB g
   replace L := eq_true L
   replace M := eq_true M
   go_wp2
   go_meet
   case rel => exact ⟨_,(false),qs_,H',⟨by have := aB.out;first | omega | exact Nat.le_refl _⟩,⟨qb_⟩⟩
  rw [if_pos c10] at H
  have aO : decide (0 < ((a0b l4 a).f2)) = true := decide_eq_true c10
  clear c10
  by_cases aF : ((a0b l4 a).f1) < a3
  rotate_left
  ·rw [if_neg aF] at H
   have aP : decide (((a0b l4 a).f1) < a3) = false := decide_eq_false aF
   clear aF
   have H' := am_ H
   clear H
   have L : 0 ≤ (a : Int) := ot_
   have M : a < (l4.length : Int) := ot_
   obtain ⟨aq,aD,c,d,g⟩ := a3o aE.out a L M
   cases aD
   replace c := qh_ HB c
   replace d := qh_ HB d
   replace g := qh_ HB g
   replace L := eq_true L
   replace M := eq_true M
   have ac : 0 ≤ (a : Int) := ot_
   have ad : a < (l4.length : Int) := ot_
   obtain ⟨aG,aK,O,P,T⟩ := a3o aE.out a ac ad
   obtain rfl : aq = aG := (by injection aK)
   replace O := qh_ HB O
   replace P := qh_ HB P
   replace T := qh_ HB T
   replace ac := eq_true ac
   replace ad := eq_true ad
   go_wp2
   go_meet
   case rel => exact ⟨_,(false),qs_,H',⟨by have := aB.out;first | omega | exact Nat.le_refl _⟩,⟨qb_⟩⟩
  rw [if_pos aF] at H
  have aP : decide (((a0b l4 a).f1) < a3) = true := decide_eq_true aF
  clear aF
  have H' := am_ H
  clear H
  have L : 0 ≤ (a : Int) := ot_
  have M : a < (l4.length : Int) := ot_
  obtain ⟨aq,aD,c,d,g⟩ := a3o aE.out a L M
  cases aD
  replace c := qh_ HB c
  replace d := qh_ HB d
  replace g := qh_ HB g
  replace L := eq_true L
  replace M := eq_true M
  have ac : 0 ≤ (a : Int) := ot_
  have ad : a < (l4.length : Int) := ot_
  obtain ⟨aG,aK,O,P,T⟩ := a3o aE.out a ac ad
  obtain rfl : aq = aG := (by injection aK)
  replace O := qh_ HB O
  replace P := qh_ HB P
  replace T := qh_ HB T
  replace ac := eq_true ac
  replace ad := eq_true ad
  have aH : 0 ≤ (a : Int) := ot_
  have aI : a < (l4.length : Int) := ot_
  obtain ⟨aY,b5,au,av,aw⟩ := a3o aE.out a aH aI
  obtain rfl : aq = aY := (by injection b5)
  replace au := qh_ HB au
  replace av := qh_ HB av
  replace aw := qh_ HB aw
  replace aH := eq_true aH
  replace aI := eq_true aI
  go_wp2
  go_meet
  case rel => exact ⟨_,(decide (a2 < ((a0b l4 a).f2))),qs_,H',⟨by have := aB.out;first | omega | exact Nat.le_refl _⟩,⟨qb_⟩⟩
 case rest =>
 clear aV
 try clear c4
 try clear aU
 try clear ar
 try clear aW
 try clear b4
 try clear aO
 try clear aP
 try clear c
 try clear d
 try clear g
 try clear O
 try clear P
 try clear T
 try clear au
 try clear av
 try clear aw
 try clear L
 try clear ac
 try clear aH
 try clear M
 try clear ad
 try clear aI
 obtain ⟨kq,aC,rfl,HA,aQ,HB⟩ := hcut
 cases kq with
 | zero => exact absurd HA.out (by simp [a0o.j1])
 | succ aR =>
 have H := HA.out
 clear HA
 simp only [a0o.j1] at H
 by_cases aS : aC = true
 rotate_left
 ·replace aS := be_ aS
  subst aS
  replace H := qin_ H
  have H' := am_ H
  clear H
  go_wp2
  go_roundg aR
  case measure => have := aB.out;have := aQ.out;omega
  case rel => exact ⟨(wrap64 (a + 1)),qs_,H',⟨by have := aB.out;have := aQ.out;omega⟩,⟨qb_⟩⟩
 subst aS
 replace H := qip_ H
 obtain ⟨ba,H⟩ := qid_ H
 obtain ⟨bb,H⟩ := qid_ H
 obtain ⟨bc,H⟩ := qid_ H
 obtain ⟨bd,H⟩ := qid_ H
 replace H := bm_ H
 obtain ⟨b6,aX,H⟩ := H
 have b3 := am_ aX
 clear aX
 by_cases aT : b6 = true
 ·subst aT
  replace H := qip_ H
  obtain rfl := si_ H
  try go_wp2
  replace HB := am_ (ld_ HB.out)
  have am : 0 ≤ (a1 : Int) := ot_
  have an : a1 < (l0.length : Int) := ot_
  obtain ⟨b,ae,af,ag,ah,aL,j,l,m,o,p,U,W,X,a0⟩ := a4i aN.out a1 am an
  have q := p
  have s := o
  have t := m
  have u := l
  have v := j
  cases aL
  replace j := qh_ HB j
  replace l := qh_ HB l
  replace m := qh_ HB m
  replace o := qh_ HB o
  replace p := qh_ HB p
  have a4 := am_ W
  have ax := am_ U
  clear W U
  have a5 := am_ a0
  have ay := am_ X
  clear a0 X
  replace am := eq_true am
  replace an := eq_true an
  have ao : 0 ≤ (a : Int) := ot_
  have ap : a < (l0.length : Int) := ot_
  obtain ⟨aJ,ai,aj,ak,al,aM,x,y,z,A,B,a6,a7,a8,a9⟩ := a4i aN.out a ao ap
  have D := B
  have E := A
  have G := z
  have I := y
  have J := x
  obtain rfl : b = aJ := (by injection aM)
  replace x := qh_ HB x
  replace y := qh_ HB y
  replace z := qh_ HB z
  replace A := qh_ HB A
  replace B := qh_ HB B
  have aa := am_ a7
  have az := am_ a6
  clear a7 a6
  have ab := am_ a9
  have aA := am_ a8
  clear a9 a8
  replace ao := eq_true ao
  replace ap := eq_true ap
  refine a4r (n := 10) (S := fun w' => w'.cell? (b.add ((a1).toNat * 5)) = some (.int .i64 ((a0a l0 a1).f0)) ∧ w'.cell? ⟨(b.add ((a1).toNat * 5)).block,(b.add ((a1).toNat * 5)).off + 1,none⟩ = some (.int .i64 ((a0a l0 a1).f1)) ∧ w'.cell? ⟨(b.add ((a1).toNat * 5)).block,(b.add ((a1).toNat * 5)).off + 2,none⟩ = some (.int .i64 ((a0a l0 a1).f2)) ∧ w'.cell? ⟨(b.add ((a1).toNat * 5)).block,(b.add ((a1).toNat * 5)).off + 3,none⟩ = some (.slice ae ((a0a l0 a1).f3).length af) ∧ w'.cell? ⟨(b.add ((a1).toNat * 5)).block,(b.add ((a1).toNat * 5)).off + 4,none⟩ = some (.slice ag ((a0a l0 a1).f4).length ah) ∧ w'.cell? (b.add ((a).toNat * 5)) = some (.int .i64 ((a0a l0 a).f0)) ∧ w'.cell? ⟨(b.add ((a).toNat * 5)).block,(b.add ((a).toNat * 5)).off + 1,none⟩ = some (.int .i64 ((a0a l0 a).f1)) ∧ w'.cell? ⟨(b.add ((a).toNat * 5)).block,(b.add ((a).toNat * 5)).off + 2,none⟩ = some (.int .i64 ((a0a l0 a).f2)) ∧ w'.cell? ⟨(b.add ((a).toNat * 5)).block,(b.add ((a).toNat * 5)).off + 3,none⟩ = some (.slice ai ((a0a l0 a).f3).length aj) ∧ w'.cell? ⟨(b.add ((a).toNat * 5)).block,(b.add ((a).toNat * 5)).off + 4,none⟩ = some (.slice ak ((a0a l0 a).f4).length al)) (ds := []) #[Y,Y,Y,Y,Y,Y,Y,Y,Y,Y] (by kernel_rfl) rfl rfl ⟨((HB.out.cell (World.block_lt_of_cell? w _ v)).trans v),((HB.out.cell (World.block_lt_of_cell? w _ u)).trans u),((HB.out.cell (World.block_lt_of_cell? w _ t)).trans t),((HB.out.cell (World.block_lt_of_cell? w _ s)).trans s),((HB.out.cell (World.block_lt_of_cell? w _ q)).trans q),((HB.out.cell (World.block_lt_of_cell? w _ J)).trans J),((HB.out.cell (World.block_lt_of_cell? w _ I)).trans I),((HB.out.cell (World.block_lt_of_cell? w _ G)).trans G),((HB.out.cell (World.block_lt_of_cell? w _ E)).trans E),((HB.out.cell (World.block_lt_of_cell? w _ D)).trans D)⟩ (fun hHeld => ?_);refine a3n a0o.tab5 a0o.c2n (fun HT_ HW_ => ?_)
  generalize wc.drew = bh at HB a4 a5 aa ab j l m o p x y z A B hHeld ⊢
  refine qpu_ 0 (some 48) #[Z,Y,Y,Y,Y,Y,Y,Y,Y,Y] ?_
  refine qpu_ 1 (some 49) #[Z,Z,Y,Y,Y,Y,Y,Y,Y,Y] ?_
  refine qpu_ 2 (some 50) #[Z,Z,Z,Y,Y,Y,Y,Y,Y,Y] ?_
  refine qpu_ 4 (some 52) #[Z,Z,Z,Y,Z,Y,Y,Y,Y,Y] ?_
  refine qpu_ 5 (some 53) #[Z,Z,Z,Y,Z,Z,Y,Y,Y,Y] ?_
  refine qpu_ 6 (some 54) #[Z,Z,Z,Y,Z,Z,Z,Y,Y,Y] ?_
  refine a9r 3 (some 51) #[Z,Z,Z,Z,Z,Z,Z,Y,Y,Y] hHeld ?_
  refine a9r 7 (some 55) #[Z,Z,Z,Z,Z,Z,Z,Z,Y,Y] hHeld ?_
  refine one_ (i := 8) (N := some 56) #[Z,Z,Z,Z,Z,Z,Z,Z,Z,Y] rfl rfl (a4n HT_.out (by kernel_rfl)) (by decide) (fun K hK => ?_)
  refine a5f Try.func64 (by kernel_rfl) rfl #[.agg #[.int .i64 ((a0a l0 a1).f0), .int .i64 ((a0a l0 a1).f1), .int .i64 ((a0a l0 a1).f2), .slice ae ((a0a l0 a1).f3).length af, .slice ag ((a0a l0 a1).f4).length ah], .agg #[.int .i64 ((a0a l0 a).f0), .int .i64 ((a0a l0 a).f1), .int .i64 ((a0a l0 a).f2), .slice ai ((a0a l0 a).f3).length aj, .slice ak ((a0a l0 a).f4).length al]] (by rfl) rfl rfl ql_ ?_
  with_reducible refine (a2o.calls aR ((a0a l0 a1).f0) ((a0a l0 a1).f1) ((a0a l0 a1).f2) _ _ ((a0a l0 a1).f3) _ _ ((a0a l0 a1).f4) ((a0a l0 a).f0) ((a0a l0 a).f1) ((a0a l0 a).f2) _ _ ((a0a l0 a).f3) _ _ ((a0a l0 a).f4) true _ ?s1 ax.out ?s3 ay.out ?s5 az.out ?s7 aA.out b3.out).mono ?_
  (case s1 => exact qc_ a4)
  (case s3 => exact qc_ a5)
  (case s5 => exact qc_ aa)
  (case s7 => exact qc_ ab)
  rintro e bi ⟨rfl,hb⟩
  refine ⟨_,rfl,?_⟩
  replace HB := qbs_ hb
  (try clear hb)
  (try clear b9)
  (try clear hk)
  (try clear hi)
  refine hK.out _ _ ⟨((HB.out.cell (World.block_lt_of_cell? w _ v)).trans v),((HB.out.cell (World.block_lt_of_cell? w _ u)).trans u),((HB.out.cell (World.block_lt_of_cell? w _ t)).trans t),((HB.out.cell (World.block_lt_of_cell? w _ s)).trans s),((HB.out.cell (World.block_lt_of_cell? w _ q)).trans q),((HB.out.cell (World.block_lt_of_cell? w _ J)).trans J),((HB.out.cell (World.block_lt_of_cell? w _ I)).trans I),((HB.out.cell (World.block_lt_of_cell? w _ G)).trans G),((HB.out.cell (World.block_lt_of_cell? w _ E)).trans E),((HB.out.cell (World.block_lt_of_cell? w _ D)).trans D)⟩ (fun hHeld => ?_)
  clear hK K
  refine a4p (a' := ?_) ?_ ?_
  rotate_left
  ·show Act.put _ (some 56) _ = _
   exact qp_
  refine qpu_ 9 (some 12) #[Z,Z,Z,Z,Z,Z,Z,Z,Z,Z] ?_
  refine a5a (a4h HT_.out (by kernel_rfl)) ?_
  try go_wp2
  go_ret
  exact ⟨qx_,qb_⟩
 replace aT := be_ aT
 subst aT
 replace H := qin_ H
 have H' := am_ H
 clear H
 try go_wp2
 replace HB := am_ (ld_ HB.out)
 have am : 0 ≤ (a1 : Int) := ot_
 have an : a1 < (l0.length : Int) := ot_
 obtain ⟨b,ae,af,ag,ah,aL,j,l,m,o,p,U,W,X,a0⟩ := a4i aN.out a1 am an
 have q := p
 have s := o
 have t := m
 have u := l
 have v := j
 cases aL
 replace j := qh_ HB j
 replace l := qh_ HB l
 replace m := qh_ HB m
 replace o := qh_ HB o
 replace p := qh_ HB p
 have a4 := am_ W
 have ax := am_ U
 clear W U
 have a5 := am_ a0
 have ay := am_ X
 clear a0 X
 replace am := eq_true am
 replace an := eq_true an
 have ao : 0 ≤ (a : Int) := ot_
 have ap : a < (l0.length : Int) := ot_
 obtain ⟨aJ,ai,aj,ak,al,aM,x,y,z,A,B,a6,a7,a8,a9⟩ := a4i aN.out a ao ap
 have D := B
 have E := A
 have G := z
 have I := y
 have J := x
 obtain rfl : b = aJ := (by injection aM)
 replace x := qh_ HB x
 replace y := qh_ HB y
 replace z := qh_ HB z
 replace A := qh_ HB A
 replace B := qh_ HB B
 have aa := am_ a7
 have az := am_ a6
 clear a7 a6
 have ab := am_ a9
 have aA := am_ a8
 clear a9 a8
 replace ao := eq_true ao
 replace ap := eq_true ap
 refine a4r (n := 10) (S := fun w' => w'.cell? (b.add ((a1).toNat * 5)) = some (.int .i64 ((a0a l0 a1).f0)) ∧ w'.cell? ⟨(b.add ((a1).toNat * 5)).block,(b.add ((a1).toNat * 5)).off + 1,none⟩ = some (.int .i64 ((a0a l0 a1).f1)) ∧ w'.cell? ⟨(b.add ((a1).toNat * 5)).block,(b.add ((a1).toNat * 5)).off + 2,none⟩ = some (.int .i64 ((a0a l0 a1).f2)) ∧ w'.cell? ⟨(b.add ((a1).toNat * 5)).block,(b.add ((a1).toNat * 5)).off + 3,none⟩ = some (.slice ae ((a0a l0 a1).f3).length af) ∧ w'.cell? ⟨(b.add ((a1).toNat * 5)).block,(b.add ((a1).toNat * 5)).off + 4,none⟩ = some (.slice ag ((a0a l0 a1).f4).length ah) ∧ w'.cell? (b.add ((a).toNat * 5)) = some (.int .i64 ((a0a l0 a).f0)) ∧ w'.cell? ⟨(b.add ((a).toNat * 5)).block,(b.add ((a).toNat * 5)).off + 1,none⟩ = some (.int .i64 ((a0a l0 a).f1)) ∧ w'.cell? ⟨(b.add ((a).toNat * 5)).block,(b.add ((a).toNat * 5)).off + 2,none⟩ = some (.int .i64 ((a0a l0 a).f2)) ∧ w'.cell? ⟨(b.add ((a).toNat * 5)).block,(b.add ((a).toNat * 5)).off + 3,none⟩ = some (.slice ai ((a0a l0 a).f3).length aj) ∧ w'.cell? ⟨(b.add ((a).toNat * 5)).block,(b.add ((a).toNat * 5)).off + 4,none⟩ = some (.slice ak ((a0a l0 a).f4).length al)) (ds := []) #[Y,Y,Y,Y,Y,Y,Y,Y,Y,Y] (by kernel_rfl) rfl rfl ⟨((HB.out.cell (World.block_lt_of_cell? w _ v)).trans v),((HB.out.cell (World.block_lt_of_cell? w _ u)).trans u),((HB.out.cell (World.block_lt_of_cell? w _ t)).trans t),((HB.out.cell (World.block_lt_of_cell? w _ s)).trans s),((HB.out.cell (World.block_lt_of_cell? w _ q)).trans q),((HB.out.cell (World.block_lt_of_cell? w _ J)).trans J),((HB.out.cell (World.block_lt_of_cell? w _ I)).trans I),((HB.out.cell (World.block_lt_of_cell? w _ G)).trans G),((HB.out.cell (World.block_lt_of_cell? w _ E)).trans E),((HB.out.cell (World.block_lt_of_cell? w _ D)).trans D)⟩ (fun hHeld => ?_);refine a3n a0o.tab5 a0o.c2n (fun HT_ HW_ => ?_)
 generalize wc.drew = bj at HB a4 a5 aa ab j l m o p x y z A B hHeld ⊢
 refine qpu_ 0 (some 48) #[Z,Y,Y,Y,Y,Y,Y,Y,Y,Y] ?_
 refine qpu_ 1 (some 49) #[Z,Z,Y,Y,Y,Y,Y,Y,Y,Y] ?_
 refine qpu_ 2 (some 50) #[Z,Z,Z,Y,Y,Y,Y,Y,Y,Y] ?_
 refine qpu_ 4 (some 52) #[Z,Z,Z,Y,Z,Y,Y,Y,Y,Y] ?_
 refine qpu_ 5 (some 53) #[Z,Z,Z,Y,Z,Z,Y,Y,Y,Y] ?_
 refine qpu_ 6 (some 54) #[Z,Z,Z,Y,Z,Z,Z,Y,Y,Y] ?_
 refine a9r 3 (some 51) #[Z,Z,Z,Z,Z,Z,Z,Y,Y,Y] hHeld ?_
 refine a9r 7 (some 55) #[Z,Z,Z,Z,Z,Z,Z,Z,Y,Y] hHeld ?_
 refine one_ (i := 8) (N := some 56) #[Z,Z,Z,Z,Z,Z,Z,Z,Z,Y] rfl rfl (a4n HT_.out (by kernel_rfl)) (by decide) (fun K hK => ?_)
 refine a5f Try.func64 (by kernel_rfl) rfl #[.agg #[.int .i64 ((a0a l0 a1).f0), .int .i64 ((a0a l0 a1).f1), .int .i64 ((a0a l0 a1).f2), .slice ae ((a0a l0 a1).f3).length af, .slice ag ((a0a l0 a1).f4).length ah], .agg #[.int .i64 ((a0a l0 a).f0), .int .i64 ((a0a l0 a).f1), .int .i64 ((a0a l0 a).f2), .slice ai ((a0a l0 a).f3).length aj, .slice ak ((a0a l0 a).f4).length al]] (by rfl) rfl rfl ql_ ?_
 with_reducible refine (a2o.calls aR ((a0a l0 a1).f0) ((a0a l0 a1).f1) ((a0a l0 a1).f2) _ _ ((a0a l0 a1).f3) _ _ ((a0a l0 a1).f4) ((a0a l0 a).f0) ((a0a l0 a).f1) ((a0a l0 a).f2) _ _ ((a0a l0 a).f3) _ _ ((a0a l0 a).f4) false _ ?s1 ax.out ?s3 ay.out ?s5 az.out ?s7 aA.out b3.out).mono ?_
 (case s1 => exact qc_ a4)
 (case s3 => exact qc_ a5)
 (case s5 => exact qc_ aa)
 (case s7 => exact qc_ ab)
 rintro e bk ⟨rfl,hb⟩
 refine ⟨_,rfl,?_⟩
 replace HB := qbs_ hb
 (try clear hb)
 (try clear b9)
 (try clear hk)
 (try clear hi)
 refine hK.out _ _ ⟨((HB.out.cell (World.block_lt_of_cell? w _ v)).trans v),((HB.out.cell (World.block_lt_of_cell? w _ u)).trans u),((HB.out.cell (World.block_lt_of_cell? w _ t)).trans t),((HB.out.cell (World.block_lt_of_cell? w _ s)).trans s),((HB.out.cell (World.block_lt_of_cell? w _ q)).trans q),((HB.out.cell (World.block_lt_of_cell? w _ J)).trans J),((HB.out.cell (World.block_lt_of_cell? w _ I)).trans I),((HB.out.cell (World.block_lt_of_cell? w _ G)).trans G),((HB.out.cell (World.block_lt_of_cell? w _ E)).trans E),((HB.out.cell (World.block_lt_of_cell? w _ D)).trans D)⟩ (fun hHeld => ?_)
 clear hK K
 refine a4p (a' := ?_) ?_ ?_
 rotate_left
 ·show Act.put _ (some 56) _ = _
  exact qp_
 refine qpu_ 9 (some 12) #[Z,Z,Z,Z,Z,Z,Z,Z,Z,Z] ?_
 refine a5a (a4h HT_.out (by kernel_rfl)) ?_
 try go_wp2
 go_roundg aR
 case measure => have := aB.out;have := aQ.out;omega
 case rel => exact ⟨(wrap64 (a + 1)),qs_,H',⟨by have := aB.out;have := aQ.out;omega⟩,⟨qb_⟩⟩
end Go.Proofs.Ytheibjkjmkanoaa.Px
