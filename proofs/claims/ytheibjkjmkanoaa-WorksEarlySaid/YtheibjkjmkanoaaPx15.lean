/- Contracts of Go functions, printed. Conditions: as each theorem states. -/
import Derived.Test.YtheibjkjmkanoaaPx0
namespace Go.Proofs.Ytheibjkjmkanoaa.Px
open Go.Proofs.Ytheibjkjmkanoaa.Given
open Go.RowKit Go.Proofs.YtheibjkjmkanoaaW.PrintWords Go.Proofs.YtheibjkjmkanoaaW.PrintLast Go.Proofs.YtheibjkjmkanoaaW.PrintMore
attribute [local go_sem] a3m a3n a3x a3y a3e a3f a3o a3p
set_option linter.unusedVariables false
set_option linter.unusedSimpArgs false
theorem c2k (d : Nat) (w : World) (x0 y0 : Int) (x1 y1 : Int) (x2 y2 : Int) :
  (Op.equalIn (d + 2) 42 (.agg #[.int .i64 x0, .int .i64 x1, .int .i64 x2]) (.agg #[.int .i64 y0, .int .i64 y1, .int .i64 y2])).run Try.prog w = .ok (x0 == y0 && (x1 == y1 && (x2 == y2))) w := by
 refine b7r Try.underlying42 (by kernel_rfl) ?_
 refine b1i (by rfl) (by go_simp;rfl) (by go_simp;rfl) (by go_simp) ?_
 refine b1i (by rfl) (by go_simp;rfl) (by go_simp;rfl) (by go_simp) ?_
 exact b4g (by rfl) (by go_simp;rfl) (by go_simp;rfl) (by go_simp)
end Go.Proofs.Ytheibjkjmkanoaa.Px
/- Contracts of Go functions, written by a program of this session's own (wip/tools/myprint.py) out of the translation: each Go function does what the Lean function of its name says. Conditions: as each theorem states. -/
namespace Go.Proofs.Ytheibjkjmkanoaa.Px
open Go.Proofs.Ytheibjkjmkanoaa.Given
open Go.RowKit Go.Proofs.YtheibjkjmkanoaaW.PrintWords Go.Proofs.YtheibjkjmkanoaaW.PrintLast Go.Proofs.YtheibjkjmkanoaaW.PrintMore
attribute [local go_sem] a3m a3n a3x a3y a3e a3f a3o a3p
set_option linter.unusedVariables false
set_option linter.unusedSimpArgs false
theorem c2l (d : Nat) (w : World) (x0 y0 : Int) (x1 y1 : Int) :
  (Op.equalIn (d + 2) 56 (.agg #[.int .i64 x0, .int .i64 x1]) (.agg #[.int .i64 y0, .int .i64 y1])).run Try.prog w = .ok (x0 == y0 && (x1 == y1)) w := by
 refine b7r Try.underlying56 (by kernel_rfl) ?_
 refine b1i (by rfl) (by go_simp;rfl) (by go_simp;rfl) (by go_simp) ?_
 exact b4g (by rfl) (by go_simp;rfl) (by go_simp;rfl) (by go_simp)
end Go.Proofs.Ytheibjkjmkanoaa.Px
/- Contracts of Go functions, written by a program of this session's own (wip/tools/myprint.py) out of the translation: each Go function does what the Lean function of its name says. Conditions: as each theorem states. -/
namespace Go.Proofs.Ytheibjkjmkanoaa.Px
open Go.Proofs.Ytheibjkjmkanoaa.Given
open Go.RowKit Go.Proofs.YtheibjkjmkanoaaW.PrintWords Go.Proofs.YtheibjkjmkanoaaW.PrintLast Go.Proofs.YtheibjkjmkanoaaW.PrintMore
attribute [local go_sem] a3m a3n a3x a3y a3e a3f a3o a3p
set_option linter.unusedVariables false
set_option linter.unusedSimpArgs false
def a6b.f (a0 : Int) (l1 : List (S42)) (b : List (S51)) (a : List (Int × Int)) (c : List (Int × List (S56))) : Option (Bool) := if 0 ≤ (a1z a a0) then (if (a1z a a0) < (l1.length : Int) then (some (((a0b l1 (a1z a a0)).f2) == 0)) else (none)) else (none)
set_option maxHeartbeats 8000000 in
set_option maxRecDepth 100000 in
theorem a6b.calls (a0 : Int) (n : Nat) (A1 : Option Addr) (c1 : Nat) (l1 : List (S42)) (p : Nat) (X : Option Addr) (Y : Nat) (m : List (S51)) (a : List (Int × Int)) (Z : List (Int × List (S56))) (c d : Nat) (gh_a2_2 : List (Int × (List (S56) × Value))) (r : Bool) (w : World) (a2 : Kd.C k42 w A1 l1.length l1) (a3 : l1.length ≤ c1) (O : Kd.C k51 w X m.length m) (P : m.length ≤ Y) (a4 : w.heap[n]? = some (.cells #[.slice A1 l1.length c1] 24 (0,0))) (a5 : w.heap[p]? = some (.cells #[.slice X m.length Y, .map (some c), .map (some d)] 62 (0,0))) (o : n ≠ p) (q : w.heap[c]? = some (a1i (Value.int .i64) a)) (s : w.heap[d]? = some (a1i (fun e_ : List (S56) × Value => e_.2) gh_a2_2)) (t : a5n gh_a2_2 = Z) (u : a5a k56 w gh_a2_2) (b : c ≠ d) (g : c ≠ n) (i : c ≠ p) (j : d ≠ n) (l : d ≠ p) (h : a6b.f a0 l1 m a Z = some r) :
  Calls Try.prog 47 #[.int .i64 a0, .pointer (some ⟨n,0,none⟩), .pointer (some ⟨p,0,none⟩)] w fun e w' => e = .returned (.bool r) ∧ a3u w w' := by
 have ac := am_ a2
 have aF := am_ a3
 clear a2 a3
 have aj := am_ O
 have ak := am_ P
 clear O P
 have a1 := am_ q
 clear q
 have al := am_ s
 clear s
 have am := am_ t
 have an := am_ u
 clear t u
 have a6 := am_ b
 have a7 := am_ b.symm
 clear b
 have v := am_ g
 have x := am_ g.symm
 clear g
 have y := am_ i
 have z := am_ i.symm
 clear i
 have A := am_ j
 have B := am_ j.symm
 clear j
 have D := am_ l
 have E := am_ l.symm
 clear l
 have T := am_ a4
 clear a4
 have W := am_ a5
 clear a5
 have G := am_ o
 have J := am_ o.symm
 clear o
 have H : (if 0 ≤ (a1z a a0) then (if (a1z a a0) < (l1.length : Int) then (some (((a0b l1 (a1z a a0)).f2) == 0)) else (none)) else (none)) = some r := h
 clear h
 obtain ⟨ax,H⟩ := qid_ H
 obtain ⟨ay,H⟩ := qid_ H
 obtain rfl := si_ H
 have az := x.out
 have aA := v.out
 have aB := B.out
 have aC := A.out
 have aD := G.out
 have aE := J.out
 have ao : w.cell? ⟨n,0,none⟩ = some (.slice A1 l1.length c1) := (bc_ T.out 0).trans rfl
 have ap := bf_ T.out 0
 have aq := z.out
 have ar := y.out
 have au := E.out
 have av := D.out
 obtain ⟨ad,ae,af⟩ := qz3_ W;obtain ⟨ag,ah,ai⟩ := qf3_ W
 have K : 0 ≤ ((a1z a a0) : Int) := ot_
 have L : (a1z a a0) < (l1.length : Int) := ot_
 obtain ⟨aw,a8,a9,aa,ab⟩ := a4h ac.out (a1z a a0) K L
 cases a8
 replace K := eq_true K
 replace L := eq_true L
 go_enter Try.func47,Try.ntmps47
 go_wp2_with (first | ((with_reducible refine a0t (N := 9) rfl ?_);refine b0f rfl (N := 9) rfl rfl (M := a) (k := a0) Try.underlying59 Try.underlying3 (a7i _) (qk_ a1) rfl ?hx ?_;(case hx => first | rfl | (go_simp;done) | (go_simp;rfl))))
 go_ret
 exact ⟨qs_,qy_⟩
def a0v.l0 : Nat → List Int → Int → Int → List (Int × Int) → List (Int × List (S56)) → List (S42) → List (S51) → Option (Int)
 | 0,_,_,_,_,_,_,_ => none
 | k + 1,x0,x7,x8,u0,u1,u2,u3 => if x8 < x7 then (if 0 ≤ x8 then (if x8 < (x0.length : Int) then ((a6b.f (rd x0 x8) u2 u3 u0 u1).bind fun a => (if a = true then (some x8) else (a0v.l0 k x0 x7 (wrap64 (x8 + 1)) u0 u1 u2 u3))) else (none)) else (none)) else (some (-1))
def a0v.f (k : Nat) (l0 : List Int)  (l2 : List (S42)) (a : List (S51)) (b : List (Int × Int)) (c : List (Int × List (S56))) : Option (Int) := a0v.l0 k l0 (l0.length : Int) 0 b c l2 a
theorem a0v.a1h : ∀ k,(∀ y0 y1 y2 y3 y4 y5 y6,LeO (a0v.l0 k y0 y1 y2 y3 y4 y5 y6) (a0v.l0 (k + 1) y0 y1 y2 y3 y4 y5 y6))
 | 0 => fun _ _ _ _ _ _ _ r h => by simp [a0v.l0] at h
 | k + 1 => by
  have a := a0v.a1h k
  intro y0 y1 y2 y3 y4 y5 y6
  unfold a0v.l0
  with_reducible (repeat' first | apply a | apply LeO.refl | apply LeO.none | apply LeO.ite | refine LeO.bind ?_ (fun _ => ?_))
theorem a0v.mono : ∀ a0 a1 a2 a3 a4 k,LeO (a0v.f k a0 a1 a2 a3 a4) (a0v.f (k + 1) a0 a1 a2 a3 a4) := by
 intro a0 a1 a2 a3 a4 k
 have a := a0v.a1h k
 unfold a0v.f
 with_reducible (repeat' first | apply a | apply LeO.refl | apply LeO.none | apply LeO.ite | refine LeO.bind ?_ (fun _ => ?_))
set_option maxHeartbeats 8000000 in
set_option maxRecDepth 100000 in
theorem a0v.calls (k : Nat) (A0 : Option Addr) (c0 : Nat) (l0 : List Int)  (x : Nat) (A2 : Option Addr) (c2 : Nat) (l2 : List (S42)) (y : Nat) (J : Option Addr) (K : Nat) (d : List (S51)) (i : List (Int × Int)) (v : List (Int × List (S56))) (b c : Nat) (gh_a3_2 : List (Int × (List (S56) × Value))) (r : Int) (w : World) (a8 : Kd.C (Kd.int .i64) w A0 l0.length l0) (a9 : l0.length ≤ c0) (aa : Kd.C k42 w A2 l2.length l2) (ab : l2.length ≤ c2) (a0 : Kd.C k51 w J d.length d) (a1 : d.length ≤ K) (ac : w.heap[x]? = some (.cells #[.slice A2 l2.length c2] 24 (0,0))) (ad : w.heap[y]? = some (.cells #[.slice J d.length K, .map (some b), .map (some c)] 62 (0,0))) (L : x ≠ y) (M : w.heap[b]? = some (a1i (Value.int .i64) i)) (O : w.heap[c]? = some (a1i (fun e_ : List (S56) × Value => e_.2) gh_a3_2)) (P : a5n gh_a3_2 = v) (T : a5a k56 w gh_a3_2) (g : b ≠ c) (j : b ≠ x) (l : b ≠ y) (m : c ≠ x) (n : c ≠ y) (h : a0v.f k l0 l2 d i v = some r) :
  Calls Try.prog 60 #[.slice A0 l0.length c0, .func (.func 47) #[] #[.pointer (some ⟨x,0,none⟩), .pointer (some ⟨y,0,none⟩)]] w fun e w' => e = .returned (.int .i64 r) ∧ a3u w w' := by
 have ae := am_ a8
 have av := am_ a9
 clear a8 a9
 have af := am_ aa
 have ag := am_ ab
 clear aa ab
 have a2 := am_ a0
 have a3 := am_ a1
 clear a0 a1
 have q := am_ M
 clear M
 have s := am_ O
 clear O
 have a4 := am_ P
 have a5 := am_ T
 clear P T
 have z := am_ g
 have ah := am_ g.symm
 clear g
 have A := am_ j
 have ai := am_ j.symm
 clear j
 have B := am_ l
 have aj := am_ l.symm
 clear l
 have D := am_ m
 have ak := am_ m.symm
 clear m
 have E := am_ n
 have al := am_ n.symm
 clear n
 have t := am_ ac
 clear ac
 have u := am_ ad
 clear ad
 have G := am_ L
 have am := am_ L.symm
 clear L
 have H : (a0v.l0 k l0 (l0.length : Int) 0 i v l2 d) = some r := h
 clear h
 have H' := am_ H
 clear H
 go_enter Try.func60,Try.ntmps60
 go_wp2
 go_loopg [8] k (fun kq v8 w' => ∃ (a : Int),v8 = .int .i64 a ∧ Aside0 (a0v.l0 kq l0 (l0.length : Int) a i v l2 d = some r) ∧ Aside0 (kq ≤ k) ∧ Aside0 (w'.heap[b]? = some (a1i (Value.int .i64) i)) ∧ Aside0 (w'.heap[c]? = some (a1i (fun e_ : List (S56) × Value => e_.2) gh_a3_2)) ∧ Aside0 (w'.heap[x]? = some (.cells #[(.slice A2 l2.length c2)] 24 (0,0))) ∧ Aside0 (w'.heap[y]? = some (.cells #[(.slice J d.length K), .map (some b), .map (some c)] 62 (0,0))) ∧ a3u w w')
 case atStart => exact ⟨(0),qs_,H',⟨Nat.le_refl _⟩,⟨qk_ q⟩,⟨qk_ s⟩,⟨qk_ t⟩,⟨qk_ u⟩,qy_⟩
 case round =>
 clear H'
 try clear c2
 obtain ⟨a,rfl,HA,an,q,s,t,u,⟨m1,rfl⟩⟩ := hrel
 cases gk with
 | zero => exact absurd HA.out (by simp [a0v.l0])
 | succ k1 =>
 have H := HA.out
 clear HA
 simp only [a0v.l0] at H
 by_cases c5 : a < (l0.length : Int)
 rotate_left
 ·rw [if_neg c5] at H
  have ap : decide (a < (l0.length : Int)) = false := decide_eq_false c5
  clear c5
  obtain rfl := si_ H
  go_wp2
  go_ret
  exact ⟨qs_,qy_⟩
 rw [if_pos c5] at H
 have ap : decide (a < (l0.length : Int)) = true := decide_eq_true c5
 clear c5
 obtain ⟨ar,H⟩ := qid_ H
 obtain ⟨au,H⟩ := qid_ H
 replace H := bm_ H
 obtain ⟨aq,ao,H⟩ := H
 have A8 := am_ ao
 clear ao
 by_cases c9 : aq = true
 ·subst c9
  replace H := qip_ H
  obtain rfl := si_ H
  have o : 0 ≤ (a : Int) := ot_
  have p : a < (l0.length : Int) := ot_
  obtain ⟨a7,W,a6⟩ := Kd.a4t ae.out a o p
  cases W
  replace o := eq_true o
  replace p := eq_true p
  go_wp2_with (first | (go_at_call 47;(with_reducible refine (a6b.calls (rd l0 a) x A2 c2 l2 y J K d i v b c gh_a3_2 true _ ?s1 ag.out ?s3 a3.out ?s5 ?s6 ?s7 ?s8 ?s9 ?s10 ?s11 ?s12 ?s13 ?s14 ?s15 ?s16 A8.out).mono ?_);(case s1 => repeat (first | exact af.out | (with_reducible refine Kd.a1t ?_ _) | (with_reducible refine Kd.a1u ?_ _) | (with_reducible refine Kd.a2h ?_)));(case s3 => repeat (first | exact a2.out | (with_reducible refine Kd.a1t ?_ _) | (with_reducible refine Kd.a1u ?_ _) | (with_reducible refine Kd.a2h ?_)));(case s5 => exact (qk_ t));(case s6 => exact (qk_ u));(case s7 => exact G.out);(case s8 => exact (qk_ q));(case s9 => exact (qk_ s));(case s10 => exact a4.out);(case s11 => exact (fun e_ he_ => by obtain ⟨A_,c_,X,Y,Z⟩ := a5.out e_ he_;have HRm_ := am_ Z;exact ⟨A_,c_,X,Y,by repeat (first | exact HRm_.out | (with_reducible refine Kd.a1t ?_ _) | (with_reducible refine Kd.a1u ?_ _) | (with_reducible refine Kd.a2h ?_))⟩));(case s12 => exact z.out);(case s13 => exact A.out);(case s14 => exact B.out);(case s15 => exact D.out);(case s16 => exact E.out);rintro e w' ⟨rfl,⟨nd,rfl⟩⟩))
  go_ret
  exact ⟨qs_,qy_⟩
 replace c9 := be_ c9
 subst c9
 replace H := qin_ H
 have H' := am_ H
 clear H
 have o : 0 ≤ (a : Int) := ot_
 have p : a < (l0.length : Int) := ot_
 obtain ⟨a7,W,a6⟩ := Kd.a4t ae.out a o p
 cases W
 replace o := eq_true o
 replace p := eq_true p
 go_wp2_with (first | (go_at_call 47;(with_reducible refine (a6b.calls (rd l0 a) x A2 c2 l2 y J K d i v b c gh_a3_2 false _ ?s1 ag.out ?s3 a3.out ?s5 ?s6 ?s7 ?s8 ?s9 ?s10 ?s11 ?s12 ?s13 ?s14 ?s15 ?s16 A8.out).mono ?_);(case s1 => repeat (first | exact af.out | (with_reducible refine Kd.a1t ?_ _) | (with_reducible refine Kd.a1u ?_ _) | (with_reducible refine Kd.a2h ?_)));(case s3 => repeat (first | exact a2.out | (with_reducible refine Kd.a1t ?_ _) | (with_reducible refine Kd.a1u ?_ _) | (with_reducible refine Kd.a2h ?_)));(case s5 => exact (qk_ t));(case s6 => exact (qk_ u));(case s7 => exact G.out);(case s8 => exact (qk_ q));(case s9 => exact (qk_ s));(case s10 => exact a4.out);(case s11 => exact (fun e_ he_ => by obtain ⟨A_,c_,X,Y,Z⟩ := a5.out e_ he_;have HRm_ := am_ Z;exact ⟨A_,c_,X,Y,by repeat (first | exact HRm_.out | (with_reducible refine Kd.a1t ?_ _) | (with_reducible refine Kd.a1u ?_ _) | (with_reducible refine Kd.a2h ?_))⟩));(case s12 => exact z.out);(case s13 => exact A.out);(case s14 => exact B.out);(case s15 => exact D.out);(case s16 => exact E.out);rintro e w' ⟨rfl,⟨nd,rfl⟩⟩))
 go_roundg k1
 case measure => have := an.out;omega
 case rel => exact ⟨(wrap64 (a + 1)),qs_,H',⟨by have := an.out;omega⟩,⟨qk_ q⟩,⟨qk_ s⟩,⟨qk_ t⟩,⟨qk_ u⟩,qy_⟩
def a2l.f (k : Nat) (l0 : List Int)  (l2 : List (S42)) (a : List (S51)) (b : List (Int × Int)) (c : List (Int × List (S56))) : Option (Bool) := (a0v.f k l0 l2 a b c).bind fun d => (some (decide (d ≥ 0)))
theorem a2l.mono : ∀ a0 a1 a2 a3 a4 k,LeO (a2l.f k a0 a1 a2 a3 a4) (a2l.f (k + 1) a0 a1 a2 a3 a4) := by
 intro a0 a1 a2 a3 a4 k
 unfold a2l.f
 with_reducible (repeat' first | apply a0v.mono | apply LeO.refl | apply LeO.none | apply LeO.ite | refine LeO.bind ?_ (fun _ => ?_))
set_option maxHeartbeats 8000000 in
set_option maxRecDepth 100000 in
theorem a2l.calls (k : Nat) (A0 : Option Addr) (c0 : Nat) (l0 : List Int)  (m : Nat) (A2 : Option Addr) (c2 : Nat) (l2 : List (S42)) (n : Nat) (E : Option Addr) (G : Nat) (d : List (S51)) (o : List (Int × Int)) (p : List (Int × List (S56))) (a b : Nat) (gh_a3_2 : List (Int × (List (S56) × Value))) (r : Bool) (w : World) (a0 : Kd.C (Kd.int .i64) w A0 l0.length l0) (a1 : l0.length ≤ c0) (a2 : Kd.C k42 w A2 l2.length l2) (a3 : l2.length ≤ c2) (K : Kd.C k51 w E d.length d) (L : d.length ≤ G) (a4 : w.heap[m]? = some (.cells #[.slice A2 l2.length c2] 24 (0,0))) (a5 : w.heap[n]? = some (.cells #[.slice E d.length G, .map (some a), .map (some b)] 62 (0,0))) (q : m ≠ n) (s : w.heap[a]? = some (a1i (Value.int .i64) o)) (t : w.heap[b]? = some (a1i (fun e_ : List (S56) × Value => e_.2) gh_a3_2)) (u : a5n gh_a3_2 = p) (v : a5a k56 w gh_a3_2) (c : a ≠ b) (g : a ≠ m) (i : a ≠ n) (j : b ≠ m) (l : b ≠ n) (h : a2l.f k l0 l2 d o p = some r) :
  Calls Try.prog 40 #[.slice A0 l0.length c0, .func (.func 47) #[] #[.pointer (some ⟨m,0,none⟩), .pointer (some ⟨n,0,none⟩)]] w fun e w' => e = .returned (.bool r) ∧ a3u w w' := by
 have ag := am_ a0
 have ah := am_ a1
 clear a0 a1
 have ai := am_ a2
 have aj := am_ a3
 clear a2 a3
 have M := am_ K
 have O := am_ L
 clear K L
 have P := am_ s
 clear s
 have T := am_ t
 clear t
 have W := am_ u
 have X := am_ v
 clear u v
 have x := am_ c
 have a6 := am_ c.symm
 clear c
 have y := am_ g
 have a7 := am_ g.symm
 clear g
 have z := am_ i
 have a8 := am_ i.symm
 clear i
 have A := am_ j
 have a9 := am_ j.symm
 clear j
 have B := am_ l
 have aa := am_ l.symm
 clear l
 have Y := am_ a4
 clear a4
 have Z := am_ a5
 clear a5
 have D := am_ q
 have ab := am_ q.symm
 clear q
 have H : ((a0v.f k l0 l2 d o p).bind fun J => (some (decide (J ≥ 0)))) = some r := h
 clear h
 replace H := bm_ H
 obtain ⟨J,ac,H⟩ := H
 have A5 := am_ ac
 clear ac
 obtain rfl := si_ H
 go_enter Try.func40,Try.ntmps40
 go_wp2_with (first | ((with_reducible refine a0r (f := 60) rfl ?_);refine a2a (some 7) rfl rfl Try.func60 (by kernel_rfl) rfl #[.slice A0 l0.length c0, .func (.func 47) #[] #[.pointer (some ⟨m,0,none⟩), .pointer (some ⟨n,0,none⟩)]] rfl ql_ ?_;(with_reducible refine (a0v.calls k _ _ l0  m A2 c2 l2 n E G d o p a b gh_a3_2 J _ ?s1 ah.out ?s3 aj.out ?s5 O.out ?s7 ?s8 ?s9 ?s10 ?s11 ?s12 ?s13 ?s14 ?s15 ?s16 ?s17 ?s18 A5.out).mono ?_);(case s1 => repeat (first | exact ag.out | (with_reducible refine Kd.a1t ?_ _) | (with_reducible refine Kd.a1u ?_ _) | (with_reducible refine Kd.a2h ?_)));(case s3 => repeat (first | exact ai.out | (with_reducible refine Kd.a1t ?_ _) | (with_reducible refine Kd.a1u ?_ _) | (with_reducible refine Kd.a2h ?_)));(case s5 => repeat (first | exact M.out | (with_reducible refine Kd.a1t ?_ _) | (with_reducible refine Kd.a1u ?_ _) | (with_reducible refine Kd.a2h ?_)));(case s7 => exact (qk_ Y));(case s8 => exact (qk_ Z));(case s9 => exact D.out);(case s10 => exact (qk_ P));(case s11 => exact (qk_ T));(case s12 => exact W.out);(case s13 => exact (fun e_ he_ => by obtain ⟨A_,c_,ad,ae,af⟩ := X.out e_ he_;have HRm_ := am_ af;exact ⟨A_,c_,ad,ae,by repeat (first | exact HRm_.out | (with_reducible refine Kd.a1t ?_ _) | (with_reducible refine Kd.a1u ?_ _) | (with_reducible refine Kd.a2h ?_))⟩));(case s14 => exact x.out);(case s15 => exact y.out);(case s16 => exact z.out);(case s17 => exact A.out);(case s18 => exact B.out);rintro e w' ⟨rfl,⟨nd,rfl⟩⟩;refine ⟨_,rfl,?_⟩))
 go_ret
 exact ⟨qs_,qy_⟩
end Go.Proofs.Ytheibjkjmkanoaa.Px
