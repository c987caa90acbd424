/- Contracts of Go functions, printed. Conditions: as each theorem states. -/
import Derived.Test.YtheibjkjmkanoaaPx0
namespace Go.Proofs.Ytheibjkjmkanoaa.Px
open Go.Proofs.Ytheibjkjmkanoaa.Given
open Go.RowKit Go.Proofs.YtheibjkjmkanoaaW.PrintWords Go.Proofs.YtheibjkjmkanoaaW.PrintLast Go.Proofs.YtheibjkjmkanoaaW.PrintMore
attribute [local go_sem] a3r a3s a4b a4c a3f a3g a3t a3u
set_option linter.unusedVariables false
set_option linter.unusedSimpArgs false
def a1r.l0 : Nat → List (S56) → Int → Int → Int → Option (Bool)
 | 0,_,_,_,_ => none
 | k + 1,x0,x1,x2,x7 => if x7 < (x0.length : Int) then (if 0 ≤ x7 then (if ((a0f x0 x7).f0) ≤ x1 then (if x2 ≤ ((a0f x0 x7).f1) then (some true) else (a1r.l0 k x0 x1 x2 (wrap64 (x7 + 1)))) else (a1r.l0 k x0 x1 x2 (wrap64 (x7 + 1)))) else (none)) else (some false)
def a1r.f (k : Nat) (l0 : List (S56)) (a1 a2 : Int) : Option (Bool) := a1r.l0 k l0 a1 a2 0
theorem a1r.a1u : ∀ k,(∀ y0 y1 y2 y3,LeO (a1r.l0 k y0 y1 y2 y3) (a1r.l0 (k + 1) y0 y1 y2 y3))
 | 0 => fun _ _ _ _ r h => by simp [a1r.l0] at h
 | k + 1 => by
  have a := a1r.a1u k
  intro y0 y1 y2 y3
  unfold a1r.l0
  with_reducible (repeat' first | apply a | apply LeO.refl | apply LeO.none | apply LeO.ite | refine LeO.bind ?_ (fun _ => ?_))
theorem a1r.mono : ∀ a0 a1 a2 k,LeO (a1r.f k a0 a1 a2) (a1r.f (k + 1) a0 a1 a2) := by
 intro a0 a1 a2 k
 have a := a1r.a1u k
 unfold a1r.f
 with_reducible (repeat' first | apply a | apply LeO.refl | apply LeO.none | apply LeO.ite | refine LeO.bind ?_ (fun _ => ?_))
set_option maxHeartbeats 8000000 in
set_option maxRecDepth 100000 in
theorem a1r.calls (k : Nat) (A0 : Option Addr) (c0 : Nat) (l0 : List (S56)) (a1 a2 : Int) (r : Bool) (w : World) (u : Kd.C k56 w A0 l0.length l0) (v : l0.length ≤ c0) (h : a1r.f k l0 a1 a2 = some r) :
  Calls Try.prog 44 #[.slice A0 l0.length c0, .int .i64 a1, .int .i64 a2] w fun e w' => e = .returned (.bool r) ∧ a3j w w' := by
 have o := am_ u
 have B := am_ v
 clear u v
 have H : (a1r.l0 k l0 a1 a2 0) = some r := h
 clear h
 have H' := am_ H
 clear H
 go_enter Try.func44,Try.ntmps44
 go_wp2
 go_loopg [7] k (fun kq v7 w' => ∃ (a : Int),v7 = .int .i64 a ∧ Aside0 (a1r.l0 kq l0 a1 a2 a = some r) ∧ Aside0 (kq ≤ k) ∧ a3j w w')
 case atStart => exact ⟨(0),qs_,H',⟨Nat.le_refl _⟩,qy_⟩
 case round =>
 clear H'
 obtain ⟨a,rfl,HA,q,⟨m1,rfl⟩⟩ := hrel
 cases gk with
 | zero => exact absurd HA.out (by simp [a1r.l0])
 | succ k1 =>
 have H := HA.out
 clear HA
 simp only [a1r.l0] at H
 by_cases c4 : a < (l0.length : Int)
 rotate_left
 ·rw [if_neg c4] at H
  have x : decide (a < (l0.length : Int)) = false := decide_eq_false c4
  clear c4
  obtain rfl := si_ H
  go_wp2
  go_ret
  exact ⟨qs_,qy_⟩
 rw [if_pos c4] at H
 have x : decide (a < (l0.length : Int)) = true := decide_eq_true c4
 clear c4
 obtain ⟨A,H⟩ := qid_ H
 by_cases c6 : ((a0f l0 a).f0) ≤ a1
 rotate_left
 ·rw [if_neg c6] at H
  have y : decide (((a0f l0 a).f0) ≤ a1) = false := decide_eq_false c6
  clear c6
  have H' := am_ H
  clear H
  have b : 0 ≤ (a : Int) := ot_
  have c : a < (l0.length : Int) := ot_
  obtain ⟨i,j,l,m⟩ := a4k o.out a b c
  cases j
  replace b := eq_true b
  replace c := eq_true c
  go_wp2
  go_roundg k1
  case measure => have := q.out;omega
  case rel => exact ⟨(wrap64 (a + 1)),qs_,H',⟨by have := q.out;omega⟩,qy_⟩
 rw [if_pos c6] at H
 have y : decide (((a0f l0 a).f0) ≤ a1) = true := decide_eq_true c6
 clear c6
 by_cases c7 : a2 ≤ ((a0f l0 a).f1)
 ·rw [if_pos c7] at H
  have z : decide (a2 ≤ ((a0f l0 a).f1)) = true := decide_eq_true c7
  clear c7
  obtain rfl := si_ H
  have b : 0 ≤ (a : Int) := ot_
  have c : a < (l0.length : Int) := ot_
  obtain ⟨i,j,l,m⟩ := a4k o.out a b c
  cases j
  replace b := eq_true b
  replace c := eq_true c
  have d : 0 ≤ (a : Int) := ot_
  have g : a < (l0.length : Int) := ot_
  obtain ⟨n,p,s,t⟩ := a4k o.out a d g
  obtain rfl : i = n := (by injection p)
  replace d := eq_true d
  replace g := eq_true g
  go_wp2
  go_ret
  exact ⟨qs_,qy_⟩
 rw [if_neg c7] at H
 have z : decide (a2 ≤ ((a0f l0 a).f1)) = false := decide_eq_false c7
 clear c7
 have H' := am_ H
 clear H
 have b : 0 ≤ (a : Int) := ot_
 have c : a < (l0.length : Int) := ot_
 obtain ⟨i,j,l,m⟩ := a4k o.out a b c
 cases j
 replace b := eq_true b
 replace c := eq_true c
 have d : 0 ≤ (a : Int) := ot_
 have g : a < (l0.length : Int) := ot_
 obtain ⟨n,p,s,t⟩ := a4k o.out a d g
 obtain rfl : i = n := (by injection p)
 replace d := eq_true d
 replace g := eq_true g
 go_wp2
 go_roundg k1
 case measure => have := q.out;omega
 case rel => exact ⟨(wrap64 (a + 1)),qs_,H',⟨by have := q.out;omega⟩,qy_⟩
def a1w.l0 : Nat → List Int → Int → Int → Option (Bool)
 | 0,_,_,_ => none
 | k + 1,x0,x1,x5 => if x5 < (x0.length : Int) then (if 0 ≤ x5 then (if (rd x0 x5) = x1 then (some true) else (a1w.l0 k x0 x1 (wrap64 (x5 + 1)))) else (none)) else (some false)
def a1w.f (k : Nat) (l0 : List Int) (a1 : Int) : Option (Bool) := a1w.l0 k l0 a1 0
theorem a1w.a1u : ∀ k,(∀ y0 y1 y2,LeO (a1w.l0 k y0 y1 y2) (a1w.l0 (k + 1) y0 y1 y2))
 | 0 => fun _ _ _ r h => by simp [a1w.l0] at h
 | k + 1 => by
  have a := a1w.a1u k
  intro y0 y1 y2
  unfold a1w.l0
  with_reducible (repeat' first | apply a | apply LeO.refl | apply LeO.none | apply LeO.ite | refine LeO.bind ?_ (fun _ => ?_))
theorem a1w.mono : ∀ a0 a1 k,LeO (a1w.f k a0 a1) (a1w.f (k + 1) a0 a1) := by
 intro a0 a1 k
 have a := a1w.a1u k
 unfold a1w.f
 with_reducible (repeat' first | apply a | apply LeO.refl | apply LeO.none | apply LeO.ite | refine LeO.bind ?_ (fun _ => ?_))
set_option maxHeartbeats 8000000 in
set_option maxRecDepth 100000 in
theorem a1w.calls (k : Nat) (A0 : Option Addr) (c0 : Nat) (l0 : List Int) (a1 : Int) (r : Bool) (w : World) (j : Kd.C (Kd.int .i64) w A0 l0.length l0) (l : l0.length ≤ c0) (h : a1w.f k l0 a1 = some r) :
  Calls Try.prog 52 #[.slice A0 l0.length c0, .int .i64 a1] w fun e w' => e = .returned (.bool r) ∧ a3j w w' := by
 have m := am_ j
 have t := am_ l
 clear j l
 have H : (a1w.l0 k l0 a1 0) = some r := h
 clear h
 have H' := am_ H
 clear H
 go_enter Try.func52,Try.ntmps52
 go_wp2
 go_loopg [5] k (fun kq v5 w' => ∃ (a : Int),v5 = .int .i64 a ∧ Aside0 (a1w.l0 kq l0 a1 a = some r) ∧ Aside0 (kq ≤ k) ∧ a3j w w')
 case atStart => exact ⟨(0),qs_,H',⟨Nat.le_refl _⟩,qy_⟩
 case round =>
 clear H'
 obtain ⟨a,rfl,HA,n,⟨m1,rfl⟩⟩ := hrel
 cases gk with
 | zero => exact absurd HA.out (by simp [a1w.l0])
 | succ k1 =>
 have H := HA.out
 clear HA
 simp only [a1w.l0] at H
 by_cases c3 : a < (l0.length : Int)
 rotate_left
 ·rw [if_neg c3] at H
  have o : decide (a < (l0.length : Int)) = false := decide_eq_false c3
  clear c3
  obtain rfl := si_ H
  go_wp2
  go_ret
  exact ⟨qs_,qy_⟩
 rw [if_pos c3] at H
 have o : decide (a < (l0.length : Int)) = true := decide_eq_true c3
 clear c3
 obtain ⟨s,H⟩ := qid_ H
 by_cases c5 : (rd l0 a) = a1
 ·rw [if_pos c5] at H
  have p : ((rd l0 a) == a1) = true := beq_iff_eq.mpr c5
  have q : ((rd l0 a) != a1) = false := bne_eq_false_iff_eq.mpr c5
  clear c5
  obtain rfl := si_ H
  have b : 0 ≤ (a : Int) := ot_
  have c : a < (l0.length : Int) := ot_
  obtain ⟨i,d,g⟩ := Kd.a4h m.out a b c
  cases d
  replace b := eq_true b
  replace c := eq_true c
  go_wp2
  go_ret
  exact ⟨qs_,qy_⟩
 rw [if_neg c5] at H
 have p : ((rd l0 a) == a1) = false := beq_eq_false_iff_ne.mpr c5
 have q : ((rd l0 a) != a1) = true := bne_iff_ne.mpr c5
 have H' := am_ H
 clear H
 have b : 0 ≤ (a : Int) := ot_
 have c : a < (l0.length : Int) := ot_
 obtain ⟨i,d,g⟩ := Kd.a4h m.out a b c
 cases d
 replace b := eq_true b
 replace c := eq_true c
 go_wp2
 go_roundg k1
 case measure => have := n.out;omega
 case rel => exact ⟨(wrap64 (a + 1)),qs_,H',⟨by have := n.out;omega⟩,qy_⟩
def a2l.l0 : Nat → Int → Int → Int → Int → List Int → List Int → Int → Int → Int → List Int → List Int → Option (Bool)
 | 0,_,_,_,_,_,_,_,_,_,_,_ => none
 | k + 1,x5,u0,u1,u2,u3,u4,u5,u6,u7,u8,u9 => if x5 < (u4.length : Int) then (if 0 ≤ x5 then ((a1w.f k u9 (rd u4 x5)).bind fun a => (if a = true then (some true) else (a2l.l0 k (wrap64 (x5 + 1)) u0 u1 u2 u3 u4 u5 u6 u7 u8 u9))) else (none)) else (some false)
def a2l.f (k : Nat) (c a d : Int) (e g : List Int) (h b i : Int) (j l : List Int) : Option (Bool) := if a = b then (some true) else (a2l.l0 k 0 c a d e g h b i j l)
theorem a2l.a1u : ∀ k,(∀ y0 y1 y2 y3 y4 y5 y6 y7 y8 y9 a,LeO (a2l.l0 k y0 y1 y2 y3 y4 y5 y6 y7 y8 y9 a) (a2l.l0 (k + 1) y0 y1 y2 y3 y4 y5 y6 y7 y8 y9 a))
 | 0 => fun _ _ _ _ _ _ _ _ _ _ _ r h => by simp [a2l.l0] at h
 | k + 1 => by
  have b := a2l.a1u k
  intro y0 y1 y2 y3 y4 y5 y6 y7 y8 y9 a
  unfold a2l.l0
  with_reducible (repeat' first | apply b | apply a1w.mono | apply LeO.refl | apply LeO.none | apply LeO.ite | refine LeO.bind ?_ (fun _ => ?_))
theorem a2l.mono : ∀ a0 a1 a2 a3 a4 a5 a6 a7 a8 a9 k,LeO (a2l.f k a0 a1 a2 a3 a4 a5 a6 a7 a8 a9) (a2l.f (k + 1) a0 a1 a2 a3 a4 a5 a6 a7 a8 a9) := by
 intro a0 a1 a2 a3 a4 a5 a6 a7 a8 a9 k
 have a := a2l.a1u k
 unfold a2l.f
 with_reducible (repeat' first | apply a | apply a1w.mono | apply LeO.refl | apply LeO.none | apply LeO.ite | refine LeO.bind ?_ (fun _ => ?_))
set_option maxHeartbeats 8000000 in
set_option maxRecDepth 100000 in
theorem a2l.calls (k : Nat) (p l q : Int) (v : Option Addr) (x : Nat) (n : List Int) (y : Option Addr) (z : Nat) (g : List Int) (s m t : Int) (A : Option Addr) (B : Nat) (o : List Int) (D : Option Addr) (E : Nat) (i : List Int) (r : Bool) (w : World) (aH : Kd.C (Kd.int .i64) w v n.length n) (aI : n.length ≤ x) (aJ : Kd.C (Kd.int .i64) w y g.length g) (aK : g.length ≤ z) (aL : Kd.C (Kd.int .i64) w A o.length o) (aM : o.length ≤ B) (aN : Kd.C (Kd.int .i64) w D i.length i) (aO : i.length ≤ E) (h : a2l.f k p l q n g s m t o i = some r) :
  Calls Try.prog 64 #[.agg #[.int .i64 p, .int .i64 l, .int .i64 q, .slice v n.length x, .slice y g.length z], .agg #[.int .i64 s, .int .i64 m, .int .i64 t, .slice A o.length B, .slice D i.length E]] w fun e w' => e = .returned (.bool r) ∧ Below w.heap.size w w' := by
 have cc := Try.underlying51
 have bS := am_ aH
 have bT := am_ aI
 clear aH aI
 have aP := am_ aJ
 have bU := am_ aK
 clear aJ aK
 have bV := am_ aL
 have bW := am_ aM
 clear aL aM
 have G := am_ aN
 have I := am_ aO
 clear aN aO
 have HB := am_ (Below.refl w.heap.size w)
 have H : (if l = m then (some true) else (a2l.l0 k 0 p l q n g s m t o i)) = some r := h
 clear h
 by_cases c3 : l = m
 ·rw [if_pos c3] at H
  have aT : (l == m) = true := beq_iff_eq.mpr c3
  have aU : (l != m) = false := bne_eq_false_iff_eq.mpr c3
  clear c3
  obtain rfl := si_ H
  go_enter Try.func64,Try.ntmps64
  go_wp2_with (first | ((with_reducible refine a0s (N := 2) rfl ?_);refine qev_ 2 #[.int .i64 p, .int .i64 l, .int .i64 q, .slice v n.length x, .slice y g.length z] 51 ?_;intro J hg w4 hbox hb;have a := am_ (hbox);have O := qga_ hg;have P := qga_ hg;replace HB := qbs_ hb;clear hb hbox hg) | ((with_reducible refine a0s (N := 3) rfl ?_);refine qev_ 3 #[.int .i64 s, .int .i64 m, .int .i64 t, .slice A o.length B, .slice D i.length E] 51 ?_;intro K hg w5 hbox hb;have d := am_ (hbox);have T := qga_ hg;have U := qga_ hg;replace HB := qbs_ hb;obtain ⟨b,c⟩ := qnb_ hg a;replace a := qkb_ a hb;clear hb hbox hg;have aV := b.out;have aW := c.out;obtain ⟨ak,al,am,an,ao⟩ := qz5_ a;obtain ⟨ap,aq,ar,au,av⟩ := qf5_ a;obtain ⟨aw,ax,ay,az,aA⟩ := qz5_ d;obtain ⟨aB,aC,aD,aE,aF⟩ := qf5_ d))
  repeat (go_quiet (first | ((with_reducible refine a0s (N := 2) rfl ?_);refine qev_ 2 #[.int .i64 p, .int .i64 l, .int .i64 q, .slice v n.length x, .slice y g.length z] 51 ?_;intro J hg w4 hbox hb;have a := am_ (hbox);have O := qga_ hg;have P := qga_ hg;replace HB := qbs_ hb;clear hb hbox hg) | ((with_reducible refine a0s (N := 3) rfl ?_);refine qev_ 3 #[.int .i64 s, .int .i64 m, .int .i64 t, .slice A o.length B, .slice D i.length E] 51 ?_;intro K hg w5 hbox hb;have d := am_ (hbox);have T := qga_ hg;have U := qga_ hg;replace HB := qbs_ hb;obtain ⟨b,c⟩ := qnb_ hg a;replace a := qkb_ a hb;clear hb hbox hg;have aV := b.out;have aW := c.out;obtain ⟨ak,al,am,an,ao⟩ := qz5_ a;obtain ⟨ap,aq,ar,au,av⟩ := qf5_ a;obtain ⟨aw,ax,ay,az,aA⟩ := qz5_ d;obtain ⟨aB,aC,aD,aE,aF⟩ := qf5_ d));try go_wp2_with (first | ((with_reducible refine a0s (N := 2) rfl ?_);refine qev_ 2 #[.int .i64 p, .int .i64 l, .int .i64 q, .slice v n.length x, .slice y g.length z] 51 ?_;intro J hg w4 hbox hb;have a := am_ (hbox);have O := qga_ hg;have P := qga_ hg;replace HB := qbs_ hb;clear hb hbox hg) | ((with_reducible refine a0s (N := 3) rfl ?_);refine qev_ 3 #[.int .i64 s, .int .i64 m, .int .i64 t, .slice A o.length B, .slice D i.length E] 51 ?_;intro K hg w5 hbox hb;have d := am_ (hbox);have T := qga_ hg;have U := qga_ hg;replace HB := qbs_ hb;obtain ⟨b,c⟩ := qnb_ hg a;replace a := qkb_ a hb;clear hb hbox hg;have aV := b.out;have aW := c.out;obtain ⟨ak,al,am,an,ao⟩ := qz5_ a;obtain ⟨ap,aq,ar,au,av⟩ := qf5_ a;obtain ⟨aw,ax,ay,az,aA⟩ := qz5_ d;obtain ⟨aB,aC,aD,aE,aF⟩ := qf5_ d)))
  go_ret
  exact ⟨qx_,qb_⟩
 rw [if_neg c3] at H
 have aT : (l == m) = false := beq_eq_false_iff_ne.mpr c3
 have aU : (l != m) = true := bne_iff_ne.mpr c3
 have H' := am_ H
 clear H
 go_enter Try.func64,Try.ntmps64
 go_wp2_with (first | ((with_reducible refine a0s (N := 2) rfl ?_);refine qev_ 2 #[.int .i64 p, .int .i64 l, .int .i64 q, .slice v n.length x, .slice y g.length z] 51 ?_;intro J hg w9 hbox hb;have a := am_ (hbox);have O := qga_ hg;have P := qga_ hg;replace HB := qbs_ hb;clear hb hbox hg) | ((with_reducible refine a0s (N := 3) rfl ?_);refine qev_ 3 #[.int .i64 s, .int .i64 m, .int .i64 t, .slice A o.length B, .slice D i.length E] 51 ?_;intro K hg b0 hbox hb;have d := am_ (hbox);have T := qga_ hg;have U := qga_ hg;replace HB := qbs_ hb;obtain ⟨b,c⟩ := qnb_ hg a;replace a := qkb_ a hb;clear hb hbox hg;have aQ := b.out;have aR := c.out;obtain ⟨W,X,a0,a1,a2⟩ := qz5_ a;obtain ⟨a3,a4,a5,a6,a7⟩ := qf5_ a;obtain ⟨a8,a9,aa,ab,ac⟩ := qz5_ d;obtain ⟨ad,ae,af,ag,ah⟩ := qf5_ d))
 repeat (go_quiet (first | ((with_reducible refine a0s (N := 2) rfl ?_);refine qev_ 2 #[.int .i64 p, .int .i64 l, .int .i64 q, .slice v n.length x, .slice y g.length z] 51 ?_;intro J hg w9 hbox hb;have a := am_ (hbox);have O := qga_ hg;have P := qga_ hg;replace HB := qbs_ hb;clear hb hbox hg) | ((with_reducible refine a0s (N := 3) rfl ?_);refine qev_ 3 #[.int .i64 s, .int .i64 m, .int .i64 t, .slice A o.length B, .slice D i.length E] 51 ?_;intro K hg b0 hbox hb;have d := am_ (hbox);have T := qga_ hg;have U := qga_ hg;replace HB := qbs_ hb;obtain ⟨b,c⟩ := qnb_ hg a;replace a := qkb_ a hb;clear hb hbox hg;have aQ := b.out;have aR := c.out;obtain ⟨W,X,a0,a1,a2⟩ := qz5_ a;obtain ⟨a3,a4,a5,a6,a7⟩ := qf5_ a;obtain ⟨a8,a9,aa,ab,ac⟩ := qz5_ d;obtain ⟨ad,ae,af,ag,ah⟩ := qf5_ d));try go_wp2_with (first | ((with_reducible refine a0s (N := 2) rfl ?_);refine qev_ 2 #[.int .i64 p, .int .i64 l, .int .i64 q, .slice v n.length x, .slice y g.length z] 51 ?_;intro J hg w9 hbox hb;have a := am_ (hbox);have O := qga_ hg;have P := qga_ hg;replace HB := qbs_ hb;clear hb hbox hg) | ((with_reducible refine a0s (N := 3) rfl ?_);refine qev_ 3 #[.int .i64 s, .int .i64 m, .int .i64 t, .slice A o.length B, .slice D i.length E] 51 ?_;intro K hg b0 hbox hb;have d := am_ (hbox);have T := qga_ hg;have U := qga_ hg;replace HB := qbs_ hb;obtain ⟨b,c⟩ := qnb_ hg a;replace a := qkb_ a hb;clear hb hbox hg;have aQ := b.out;have aR := c.out;obtain ⟨W,X,a0,a1,a2⟩ := qz5_ a;obtain ⟨a3,a4,a5,a6,a7⟩ := qf5_ a;obtain ⟨a8,a9,aa,ab,ac⟩ := qz5_ d;obtain ⟨ad,ae,af,ag,ah⟩ := qf5_ d)))
 go_loopg [5] k (fun kq v5 w' => ∃ (j : Int),v5 = .int .i64 j ∧ Aside0 (a2l.l0 kq j p l q n g s m t o i = some r) ∧ Aside0 (kq ≤ k) ∧ Aside0 (w'.heap[J]? = some (.cells #[.int .i64 p, .int .i64 l, .int .i64 q,(.slice v n.length x),(.slice y g.length z)] 51 (0,0))) ∧ Aside0 (w'.heap[K]? = some (.cells #[.int .i64 s, .int .i64 m, .int .i64 t,(.slice A o.length B),(.slice D i.length E)] 51 (0,0))) ∧ Aside0 (Below w.heap.size w w'))
 case atStart => exact ⟨(0),qs_,H',⟨Nat.le_refl _⟩,⟨qk_ a⟩,⟨qk_ d⟩,⟨qb_⟩⟩
 case round =>
 clear H'
 try clear aT
 try clear aU
 try clear W X a0 a1 a2
 try clear a8 a9 aa ab ac
 try clear ak al am an ao
 try clear aw ax ay az aA
 try clear a3 a4 a5 a6 a7
 try clear ad ae af ag ah
 try clear ap aq ar au av
 try clear aB aC aD aE aF
 obtain ⟨j,rfl,HA,b1,a,d,HB⟩ := hrel
 cases gk with
 | zero => exact absurd HA.out (by simp [a2l.l0])
 | succ k1 =>
 have H := HA.out
 clear HA
 simp only [a2l.l0] at H
 by_cases ai : j < (g.length : Int)
 rotate_left
 ·rw [if_neg ai] at H
  have aY : decide (j < (g.length : Int)) = false := decide_eq_false ai
  clear ai
  obtain rfl := si_ H
  have bX := b.out
  have bY := c.out
  obtain ⟨b3,b4,b5,b6,b7⟩ := qz5_ a;obtain ⟨b8,b9,ba,bb,bc⟩ := qf5_ a
  go_wp2
  repeat (go_quiet (fail);try go_wp2)
  go_ret
  exact ⟨qx_,qb_⟩
 rw [if_pos ai] at H
 have aY : decide (j < (g.length : Int)) = true := decide_eq_true ai
 clear ai
 obtain ⟨bZ,H⟩ := qid_ H
 replace H := bm_ H
 obtain ⟨b2,aX,H⟩ := H
 have aj := am_ aX
 clear aX
 by_cases aS : b2 = true
 ·subst aS
  replace H := qip_ H
  obtain rfl := si_ H
  have c0 := b.out
  have c1 := c.out
  obtain ⟨bd,be,bf,bg,bh⟩ := qz5_ a;obtain ⟨bi,bj,bk,bl,bm⟩ := qf5_ a
  obtain ⟨bn,bo,bp,bq,br⟩ := qz5_ d;obtain ⟨bs,bt,bu,bv,bw⟩ := qf5_ d
  have L : 0 ≤ (j : Int) := ot_
  have M : j < (g.length : Int) := ot_
  obtain ⟨aZ,aG,u⟩ := Kd.a4h aP.out j L M
  cases aG
  replace u := qh_ HB u
  replace L := eq_true L
  replace M := eq_true M
  go_wp2_with (first | (go_at_call 52;(with_reducible refine (a1w.calls k1 _ _ i (rd g j) true _ ?s1 I.out aj.out).mono ?_);(case s1 => exact qc_ G);rintro e w' ⟨rfl,⟨nd,rfl⟩⟩;(try exact qw_)))
  repeat (go_quiet (first | (go_at_call 52;(with_reducible refine (a1w.calls k1 _ _ i (rd g j) true _ ?s1 I.out aj.out).mono ?_);(case s1 => exact qc_ G);rintro e w' ⟨rfl,⟨nd,rfl⟩⟩;(try exact qw_)));try go_wp2_with (first | (go_at_call 52;(with_reducible refine (a1w.calls k1 _ _ i (rd g j) true _ ?s1 I.out aj.out).mono ?_);(case s1 => exact qc_ G);rintro e w' ⟨rfl,⟨nd,rfl⟩⟩;(try exact qw_))))
  go_ret
  exact ⟨qx_,qb_⟩
 replace aS := be_ aS
 subst aS
 replace H := qin_ H
 have H' := am_ H
 clear H
 have ca := b.out
 have cb := c.out
 obtain ⟨bx,bz,bA,bB,bC⟩ := qz5_ a;obtain ⟨bD,bE,bF,bG,bH⟩ := qf5_ a
 obtain ⟨bI,bJ,bK,bL,bM⟩ := qz5_ d;obtain ⟨bN,bO,bP,bQ,bR⟩ := qf5_ d
 have L : 0 ≤ (j : Int) := ot_
 have M : j < (g.length : Int) := ot_
 obtain ⟨aZ,aG,u⟩ := Kd.a4h aP.out j L M
 cases aG
 replace u := qh_ HB u
 replace L := eq_true L
 replace M := eq_true M
 go_wp2_with (first | (go_at_call 52;(with_reducible refine (a1w.calls k1 _ _ i (rd g j) false _ ?s1 I.out aj.out).mono ?_);(case s1 => exact qc_ G);rintro e w' ⟨rfl,⟨nd,rfl⟩⟩;(try exact qw_)))
 repeat (go_quiet (first | (go_at_call 52;(with_reducible refine (a1w.calls k1 _ _ i (rd g j) false _ ?s1 I.out aj.out).mono ?_);(case s1 => exact qc_ G);rintro e w' ⟨rfl,⟨nd,rfl⟩⟩;(try exact qw_)));try go_wp2_with (first | (go_at_call 52;(with_reducible refine (a1w.calls k1 _ _ i (rd g j) false _ ?s1 I.out aj.out).mono ?_);(case s1 => exact qc_ G);rintro e w' ⟨rfl,⟨nd,rfl⟩⟩;(try exact qw_))))
 go_roundg k1
 case measure => have := b1.out;omega
 case rel => exact ⟨(wrap64 (j + 1)),qs_,H',⟨by have := b1.out;omega⟩,⟨qk_ a⟩,⟨qk_ d⟩,⟨qb_⟩⟩
end Go.Proofs.Ytheibjkjmkanoaa.Px
