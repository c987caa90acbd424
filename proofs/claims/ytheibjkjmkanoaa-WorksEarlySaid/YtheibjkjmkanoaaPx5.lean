/- Contracts of Go functions, printed. Conditions: as each theorem states. -/
import Derived.Test.YtheibjkjmkanoaaPx0
namespace Go.Proofs.Ytheibjkjmkanoaa.Px
open Go.Proofs.Ytheibjkjmkanoaa.Given
open Go.RowKit Go.Proofs.YtheibjkjmkanoaaW.PrintWords Go.Proofs.YtheibjkjmkanoaaW.PrintLast Go.Proofs.YtheibjkjmkanoaaW.PrintMore
attribute [local go_sem] a3m a3n a3x a3y a3e a3f a3o a3p
set_option linter.unusedVariables false
set_option linter.unusedSimpArgs false
mutual
def a0x.l0 : Nat → List Int → Int → Int → List Int → Int → Int → Option (Bool)
 | 0,_,_,_,_,_,_ => none
 | k + 1,x0,x1,x2,x9,b,a => if a < b then (if 0 ≤ a then (if a < (x9.length : Int) then (if (rd x9 a) < x1 then (a0x.j1 k x0 x1 x2 x9 b a true) else (if (rd x9 a) > x2 then (a0x.j1 k x0 x1 x2 x9 b a true) else (if a > 0 then (if 0 ≤ (wrap64 (a - 1)) then (if (wrap64 (a - 1)) < (x0.length : Int) then (a0x.j1 k x0 x1 x2 x9 b a (decide ((rd x9 a) ≤ (rd x0 (wrap64 (a - 1)))))) else (none)) else (none)) else (a0x.j1 k x0 x1 x2 x9 b a false)))) else (none)) else (none)) else (some true)
def a0x.j1 : Nat → List Int → Int → Int → List Int → Int → Int → Bool → Option (Bool)
 | 0,_,_,_,_,_,_,_ => none
 | k + 1,x0,x1,x2,x9,a,b,c => if c = true then (some false) else (a0x.l0 k x0 x1 x2 x9 a (wrap64 (b + 1)))
end
def a0x.f (k : Nat) (l0 : List Int) (a1 a2 : Int) : Option (Bool) := a0x.l0 k l0 a1 a2 l0 (l0.length : Int) 0
theorem a0x.a1h : ∀ k,(∀ y0 y1 y2 y3 y4 y5,LeO (a0x.l0 k y0 y1 y2 y3 y4 y5) (a0x.l0 (k + 1) y0 y1 y2 y3 y4 y5)) ∧ (∀ y0 y1 y2 y3 y4 y5 y6,LeO (a0x.j1 k y0 y1 y2 y3 y4 y5 y6) (a0x.j1 (k + 1) y0 y1 y2 y3 y4 y5 y6))
 | 0 => ⟨fun _ _ _ _ _ _ r h => by simp [a0x.l0] at h,fun _ _ _ _ _ _ _ r h => by simp [a0x.j1] at h⟩
 | k + 1 => by
  obtain ⟨a,b⟩ := a0x.a1h k
  refine ⟨?_,?_⟩ <;> intros <;> (first | unfold a0x.l0 | unfold a0x.j1) <;> with_reducible (repeat' first | apply a | apply b | apply LeO.refl | apply LeO.none | apply LeO.ite | refine LeO.bind ?_ (fun _ => ?_))
theorem a0x.mono : ∀ a0 a1 a2 k,LeO (a0x.f k a0 a1 a2) (a0x.f (k + 1) a0 a1 a2) := by
 intro a0 a1 a2 k
 obtain ⟨a,b⟩ := a0x.a1h k
 unfold a0x.f
 with_reducible (repeat' first | apply a | apply b | apply LeO.refl | apply LeO.none | apply LeO.ite | refine LeO.bind ?_ (fun _ => ?_))
set_option maxHeartbeats 8000000 in
set_option maxRecDepth 100000 in
theorem a0x.calls (k : Nat) (A0 : Option Addr) (c0 : Nat) (l0 : List Int) (a1 a2 : Int) (r : Bool) (w : World) (B : Kd.C (Kd.int .i64) w A0 l0.length l0) (D : l0.length ≤ c0) (h : a0x.f k l0 a1 a2 = some r) :
  Calls Try.prog 46 #[.slice A0 l0.length c0, .int .i64 a1, .int .i64 a2] w fun e w' => e = .returned (.bool r) ∧ a3u w w' := by
 have E := am_ B
 have W := am_ D
 clear B D
 have H : (a0x.l0 k l0 a1 a2 l0 (l0.length : Int) 0) = some r := h
 clear h
 have H' := am_ H
 clear H
 go_enter Try.func46,Try.ntmps46
 go_wp2
 go_loopg [11] k (fun kq O w' => ∃ (a : Int),O = .int .i64 a ∧ Aside0 (a0x.l0 kq l0 a1 a2 l0 (l0.length : Int) a = some r) ∧ Aside0 (kq ≤ k) ∧ a3u w w')
 case atStart => exact ⟨(0),qs_,H',⟨Nat.le_refl _⟩,qy_⟩
 case round =>
 clear H'
 obtain ⟨a,rfl,HA,i,⟨m1,rfl⟩⟩ := hrel
 cases gk with
 | zero => exact absurd HA.out (by simp [a0x.l0])
 | succ k1 =>
 have H := HA.out
 clear HA
 simp only [a0x.l0] at H
 by_cases c4 : a < (l0.length : Int)
 rotate_left
 ·rw [if_neg c4] at H
  have t : decide (a < (l0.length : Int)) = false := decide_eq_false c4
  clear c4
  obtain rfl := si_ H
  go_wp2
  go_ret
  exact ⟨qs_,qy_⟩
 rw [if_pos c4] at H
 have t : decide (a < (l0.length : Int)) = true := decide_eq_true c4
 clear c4
 obtain ⟨J,H⟩ := qid_ H
 obtain ⟨K,H⟩ := qid_ H
 have u := am_ H
 clear H
 have j : 0 ≤ (a : Int) := ot_
 have l : a < (l0.length : Int) := ot_
 obtain ⟨x,L,q⟩ := Kd.a4t E.out a j l
 cases L
 replace j := eq_true j
 replace l := eq_true l
 go_upto_region 4 with (fail)
 go_cut [36] (fun P wc => ∃ (kq : Nat) (g : Bool),P = .bool g ∧ Aside0 (a0x.j1 kq l0 a1 a2 l0 (l0.length : Int) a g = some r) ∧ Aside0 (kq ≤ k1) ∧ a3u w wc)
 case first =>
  have H := u.out
  clear u
  by_cases c8 : (rd l0 a) < a1
  ·rw [if_pos c8] at H
   have d : decide ((rd l0 a) < a1) = true := decide_eq_true c8
   clear c8
   (first | rw [d] | (simp only [a4j,a4v];rw [d]) | skip)
   have H' := am_ H
   clear H
   go_wp2
   go_meet
   case rel => exact ⟨_,(true),qs_,H',⟨by have := i.out;first | omega | exact Nat.le_refl _⟩,qy_⟩
  rw [if_neg c8] at H
  have d : decide ((rd l0 a) < a1) = false := decide_eq_false c8
  clear c8
  (first | rw [d] | (simp only [a4j,a4v];rw [d]) | skip)
  by_cases c9 : (rd l0 a) > a2
  ·rw [if_pos c9] at H
   have v : decide (a2 < (rd l0 a)) = true := decide_eq_true c9
   clear c9
   have H' := am_ H
   clear H
   go_wp2
   go_meet
   case rel => exact ⟨_,(true),qs_,H',⟨by have := i.out;first | omega | exact Nat.le_refl _⟩,qy_⟩
  rw [if_neg c9] at H
  have v : decide (a2 < (rd l0 a)) = false := decide_eq_false c9
  clear c9
  by_cases c10 : a > 0
  rotate_left
  ·rw [if_neg c10] at H
   have o : decide (0 < a) = false := decide_eq_false c10
   clear c10
   have H' := am_ H
   clear H
   go_wp2
   go_meet
   case rel => exact ⟨_,(false),qs_,H',⟨by have := i.out;first | omega | exact Nat.le_refl _⟩,qy_⟩
  rw [if_pos c10] at H
  have o : decide (0 < a) = true := decide_eq_true c10
  clear c10
  obtain ⟨b,c⟩ : ∃ j_ : Int,(wrap64 (a - 1)) = j_ := ⟨_,rfl⟩
  replace H : (if 0 ≤ (b) then (if (b) < (l0.length : Int) then (a0x.j1 k1 l0 a1 a2 l0 (l0.length : Int) a (decide ((rd l0 a) ≤ (rd l0 (b))))) else (none)) else (none)) = some r := by first | (rw [c] at H;exact H) | (simp only [c] at H ⊢;exact H)
  have hji11w : (IntKind.i64.wrap (a - 1)) = b := (a4j _).trans c
  obtain ⟨y,H⟩ := qid_ H
  obtain ⟨z,H⟩ := qid_ H
  have H' := am_ H
  clear H
  have m : 0 ≤ ((b) : Int) := ot_
  have n : (b) < (l0.length : Int) := ot_
  obtain ⟨A,M,s⟩ := Kd.a4t E.out (b) m n
  obtain rfl : x = A := (by injection M)
  replace m := eq_true m
  replace n := eq_true n
  go_wp2
  try subst c
  go_meet
  case rel => exact ⟨_,(decide ((rd l0 a) ≤ (rd l0 ((wrap64 (a - 1)))))),(by first | rfl | (simp;done) | (simp only [← c] <;> (first | rfl | simp)) | (simp [*];done)),H',⟨by have := i.out;first | omega | exact Nat.le_refl _⟩,qy_⟩
 case rest =>
 clear u
 try clear t
 try clear J
 try clear K
 try clear d
 try clear v
 try clear o
 try clear y
 try clear z
 try clear q
 try clear s
 try clear j
 try clear m
 try clear l
 try clear n
 obtain ⟨kq,g,rfl,HA,G,⟨X,rfl⟩⟩ := hcut
 cases kq with
 | zero => exact absurd HA.out (by simp [a0x.j1])
 | succ T =>
 have H := HA.out
 clear HA
 simp only [a0x.j1] at H
 by_cases p : g = true
 ·subst p
  replace H := qip_ H
  obtain rfl := si_ H
  go_wp2
  go_ret
  exact ⟨qs_,qy_⟩
 replace p := be_ p
 subst p
 replace H := qin_ H
 have H' := am_ H
 clear H
 go_wp2
 go_roundg T
 case measure => have := i.out;have := G.out;omega
 case rel => exact ⟨(wrap64 (a + 1)),qs_,H',⟨by have := i.out;have := G.out;omega⟩,qy_⟩
def a5h.f (a0 : Int) (b : List (S51)) (a : List (Int × Int)) (c : List (Int × List (S56))) : Option (Bool) := some (!(mhas a a0))
set_option maxHeartbeats 8000000 in
set_option maxRecDepth 100000 in
theorem a5h.calls (a0 : Int) (v : Nat) (A : Option Addr) (B : Nat) (j : List (S51)) (l : List (Int × Int)) (D : List (Int × List (S56))) (g i : Nat) (gh_a1_2 : List (Int × (List (S56) × Value))) (r : Bool) (w : World) (x : Kd.C k51 w A j.length j) (y : j.length ≤ B) (G : w.heap[v]? = some (.cells #[.slice A j.length B, .map (some g), .map (some i)] 62 (0,0))) (m : w.heap[g]? = some (a1i (Value.int .i64) l)) (n : w.heap[i]? = some (a1i (fun e_ : List (S56) × Value => e_.2) gh_a1_2)) (o : a5n gh_a1_2 = D) (p : a5a k56 w gh_a1_2) (a : g ≠ i) (b : g ≠ v) (c : i ≠ v) (h : a5h.f a0 j l D = some r) :
  Calls Try.prog 54 #[.int .i64 a0, .pointer (some ⟨v,0,none⟩)] w fun e w' => e = .returned (.bool r) ∧ a3u w w' := by
 have L := am_ x
 have O := am_ y
 clear x y
 have E := am_ m
 clear m
 have P := am_ n
 clear n
 have T := am_ o
 have W := am_ p
 clear o p
 have J := am_ a
 have K := am_ a.symm
 clear a
 have q := am_ b
 have s := am_ b.symm
 clear b
 have t := am_ c
 have u := am_ c.symm
 clear c
 have z := am_ G
 clear G
 have H : (some (!(mhas l a0))) = some r := h
 clear h
 obtain rfl := si_ H
 have a4 := s.out
 have a5 := q.out
 have a6 := u.out
 have a7 := t.out
 obtain ⟨X,Y,Z⟩ := qz3_ z;obtain ⟨a1,a2,a3⟩ := qf3_ z
 go_enter Try.func54,Try.ntmps54
 go_wp2_with (first | ((with_reducible refine a0t (N := 10) rfl ?_);refine a8o (enc := Value.int .i64) (d := 0) rfl (N := 10) rfl rfl (M := l) (k := a0) Try.underlying59 Try.underlying3 (a7i _) (qk_ E) rfl ?hx ?_;(case hx => first | rfl | (go_simp;done) | (go_simp;rfl))))
 go_ret
 exact ⟨qs_,qy_⟩
def a0n.l0 : Nat → List Int → Int → Int → List (Int × Int) → List (Int × List (S56)) → List (S51) → Option (Int)
 | 0,_,_,_,_,_,_ => none
 | k + 1,x0,x7,x8,u0,u1,u2 => if x8 < x7 then (if 0 ≤ x8 then (if x8 < (x0.length : Int) then ((a5h.f (rd x0 x8) u2 u0 u1).bind fun a => (if a = true then (some x8) else (a0n.l0 k x0 x7 (wrap64 (x8 + 1)) u0 u1 u2))) else (none)) else (none)) else (some (-1))
def a0n.f (k : Nat) (l0 : List Int)  (a : List (S51)) (b : List (Int × Int)) (c : List (Int × List (S56))) : Option (Int) := a0n.l0 k l0 (l0.length : Int) 0 b c a
theorem a0n.a1h : ∀ k,(∀ y0 y1 y2 y3 y4 y5,LeO (a0n.l0 k y0 y1 y2 y3 y4 y5) (a0n.l0 (k + 1) y0 y1 y2 y3 y4 y5))
 | 0 => fun _ _ _ _ _ _ r h => by simp [a0n.l0] at h
 | k + 1 => by
  have a := a0n.a1h k
  intro y0 y1 y2 y3 y4 y5
  unfold a0n.l0
  with_reducible (repeat' first | apply a | apply LeO.refl | apply LeO.none | apply LeO.ite | refine LeO.bind ?_ (fun _ => ?_))
theorem a0n.mono : ∀ a0 a1 a2 a3 k,LeO (a0n.f k a0 a1 a2 a3) (a0n.f (k + 1) a0 a1 a2 a3) := by
 intro a0 a1 a2 a3 k
 have a := a0n.a1h k
 unfold a0n.f
 with_reducible (repeat' first | apply a | apply LeO.refl | apply LeO.none | apply LeO.ite | refine LeO.bind ?_ (fun _ => ?_))
set_option maxHeartbeats 8000000 in
set_option maxRecDepth 100000 in
theorem a0n.calls (k : Nat) (A0 : Option Addr) (c0 : Nat) (l0 : List Int)  (x : Nat) (y : Option Addr) (z : Nat) (d : List (S51)) (i : List (Int × Int)) (s : List (Int × List (S56))) (b c : Nat) (gh_a2_2 : List (Int × (List (S56) × Value))) (r : Int) (w : World) (a0 : Kd.C (Kd.int .i64) w A0 l0.length l0) (a1 : l0.length ≤ c0) (M : Kd.C k51 w y d.length d) (O : d.length ≤ z) (a2 : w.heap[x]? = some (.cells #[.slice y d.length z, .map (some b), .map (some c)] 62 (0,0))) (A : w.heap[b]? = some (a1i (Value.int .i64) i)) (B : w.heap[c]? = some (a1i (fun e_ : List (S56) × Value => e_.2) gh_a2_2)) (D : a5n gh_a2_2 = s) (E : a5a k56 w gh_a2_2) (g : b ≠ c) (j : b ≠ x) (l : c ≠ x) (h : a0n.f k l0 d i s = some r) :
  Calls Try.prog 60 #[.slice A0 l0.length c0, .func (.func 54) #[] #[.pointer (some ⟨x,0,none⟩)]] w fun e w' => e = .returned (.int .i64 r) ∧ a3u w w' := by
 have a3 := am_ a0
 have ad := am_ a1
 clear a0 a1
 have P := am_ M
 have T := am_ O
 clear M O
 have o := am_ A
 clear A
 have p := am_ B
 clear B
 have W := am_ D
 have X := am_ E
 clear D E
 have t := am_ g
 have a4 := am_ g.symm
 clear g
 have u := am_ j
 have a5 := am_ j.symm
 clear j
 have v := am_ l
 have a6 := am_ l.symm
 clear l
 have q := am_ a2
 clear a2
 have H : (a0n.l0 k l0 (l0.length : Int) 0 i s d) = some r := h
 clear h
 have H' := am_ H
 clear H
 go_enter Try.func60,Try.ntmps60
 go_wp2
 go_loopg [8] k (fun kq v8 w' => ∃ (a : Int),v8 = .int .i64 a ∧ Aside0 (a0n.l0 kq l0 (l0.length : Int) a i s d = some r) ∧ Aside0 (kq ≤ k) ∧ Aside0 (w'.heap[b]? = some (a1i (Value.int .i64) i)) ∧ Aside0 (w'.heap[c]? = some (a1i (fun e_ : List (S56) × Value => e_.2) gh_a2_2)) ∧ Aside0 (w'.heap[x]? = some (.cells #[(.slice y d.length z), .map (some b), .map (some c)] 62 (0,0))) ∧ a3u w w')
 case atStart => exact ⟨(0),qs_,H',⟨Nat.le_refl _⟩,⟨qk_ o⟩,⟨qk_ p⟩,⟨qk_ q⟩,qy_⟩
 case round =>
 clear H'
 obtain ⟨a,rfl,HA,a7,o,p,q,⟨m1,rfl⟩⟩ := hrel
 cases gk with
 | zero => exact absurd HA.out (by simp [a0n.l0])
 | succ k1 =>
 have H := HA.out
 clear HA
 simp only [a0n.l0] at H
 by_cases c4 : a < (l0.length : Int)
 rotate_left
 ·rw [if_neg c4] at H
  have a9 : decide (a < (l0.length : Int)) = false := decide_eq_false c4
  clear c4
  obtain rfl := si_ H
  go_wp2
  go_ret
  exact ⟨qs_,qy_⟩
 rw [if_pos c4] at H
 have a9 : decide (a < (l0.length : Int)) = true := decide_eq_true c4
 clear c4
 obtain ⟨ab,H⟩ := qid_ H
 obtain ⟨ac,H⟩ := qid_ H
 replace H := bm_ H
 obtain ⟨aa,a8,H⟩ := H
 have A7 := am_ a8
 clear a8
 by_cases c8 : aa = true
 ·subst c8
  replace H := qip_ H
  obtain rfl := si_ H
  have m : 0 ≤ (a : Int) := ot_
  have n : a < (l0.length : Int) := ot_
  obtain ⟨Z,G,Y⟩ := Kd.a4t a3.out a m n
  cases G
  replace m := eq_true m
  replace n := eq_true n
  go_wp2_with (first | (go_at_call 54;(with_reducible refine (a5h.calls (rd l0 a) x y z d i s b c gh_a2_2 true _ ?s1 T.out ?s3 ?s4 ?s5 ?s6 ?s7 ?s8 ?s9 ?s10 A7.out).mono ?_);(case s1 => repeat (first | exact P.out | (with_reducible refine Kd.a1t ?_ _) | (with_reducible refine Kd.a1u ?_ _) | (with_reducible refine Kd.a2h ?_)));(case s3 => exact (qk_ q));(case s4 => exact (qk_ o));(case s5 => exact (qk_ p));(case s6 => exact W.out);(case s7 => exact (fun e_ he_ => by obtain ⟨A_,c_,J,K,L⟩ := X.out e_ he_;have HRm_ := am_ L;exact ⟨A_,c_,J,K,by repeat (first | exact HRm_.out | (with_reducible refine Kd.a1t ?_ _) | (with_reducible refine Kd.a1u ?_ _) | (with_reducible refine Kd.a2h ?_))⟩));(case s8 => exact t.out);(case s9 => exact u.out);(case s10 => exact v.out);rintro e w' ⟨rfl,⟨nd,rfl⟩⟩))
  go_ret
  exact ⟨qs_,qy_⟩
 replace c8 := be_ c8
 subst c8
 replace H := qin_ H
 have H' := am_ H
 clear H
 have m : 0 ≤ (a : Int) := ot_
 have n : a < (l0.length : Int) := ot_
 obtain ⟨Z,G,Y⟩ := Kd.a4t a3.out a m n
 cases G
 replace m := eq_true m
 replace n := eq_true n
 go_wp2_with (first | (go_at_call 54;(with_reducible refine (a5h.calls (rd l0 a) x y z d i s b c gh_a2_2 false _ ?s1 T.out ?s3 ?s4 ?s5 ?s6 ?s7 ?s8 ?s9 ?s10 A7.out).mono ?_);(case s1 => repeat (first | exact P.out | (with_reducible refine Kd.a1t ?_ _) | (with_reducible refine Kd.a1u ?_ _) | (with_reducible refine Kd.a2h ?_)));(case s3 => exact (qk_ q));(case s4 => exact (qk_ o));(case s5 => exact (qk_ p));(case s6 => exact W.out);(case s7 => exact (fun e_ he_ => by obtain ⟨A_,c_,J,K,L⟩ := X.out e_ he_;have HRm_ := am_ L;exact ⟨A_,c_,J,K,by repeat (first | exact HRm_.out | (with_reducible refine Kd.a1t ?_ _) | (with_reducible refine Kd.a1u ?_ _) | (with_reducible refine Kd.a2h ?_))⟩));(case s8 => exact t.out);(case s9 => exact u.out);(case s10 => exact v.out);rintro e w' ⟨rfl,⟨nd,rfl⟩⟩))
 go_roundg k1
 case measure => have := a7.out;omega
 case rel => exact ⟨(wrap64 (a + 1)),qs_,H',⟨by have := a7.out;omega⟩,⟨qk_ o⟩,⟨qk_ p⟩,⟨qk_ q⟩,qy_⟩
def a1w.f (k : Nat) (l0 : List Int)  (a : List (S51)) (b : List (Int × Int)) (c : List (Int × List (S56))) : Option (Bool) := (a0n.f k l0 a b c).bind fun d => (some (decide (d ≥ 0)))
theorem a1w.mono : ∀ a0 a1 a2 a3 k,LeO (a1w.f k a0 a1 a2 a3) (a1w.f (k + 1) a0 a1 a2 a3) := by
 intro a0 a1 a2 a3 k
 unfold a1w.f
 with_reducible (repeat' first | apply a0n.mono | apply LeO.refl | apply LeO.none | apply LeO.ite | refine LeO.bind ?_ (fun _ => ?_))
set_option maxHeartbeats 8000000 in
set_option maxRecDepth 100000 in
theorem a1w.calls (k : Nat) (A0 : Option Addr) (c0 : Nat) (l0 : List Int)  (j : Nat) (v : Option Addr) (x : Nat) (d : List (S51)) (l : List (Int × Int)) (m : List (Int × List (S56))) (b c : Nat) (gh_a2_2 : List (Int × (List (S56) × Value))) (r : Bool) (w : World) (M : Kd.C (Kd.int .i64) w A0 l0.length l0) (O : l0.length ≤ c0) (z : Kd.C k51 w v d.length d) (A : d.length ≤ x) (P : w.heap[j]? = some (.cells #[.slice v d.length x, .map (some b), .map (some c)] 62 (0,0))) (n : w.heap[b]? = some (a1i (Value.int .i64) l)) (o : w.heap[c]? = some (a1i (fun e_ : List (S56) × Value => e_.2) gh_a2_2)) (p : a5n gh_a2_2 = m) (q : a5a k56 w gh_a2_2) (a : b ≠ c) (g : b ≠ j) (i : c ≠ j) (h : a1w.f k l0 d l m = some r) :
  Calls Try.prog 40 #[.slice A0 l0.length c0, .func (.func 54) #[] #[.pointer (some ⟨j,0,none⟩)]] w fun e w' => e = .returned (.bool r) ∧ a3u w w' := by
 have a2 := am_ M
 have a3 := am_ O
 clear M O
 have B := am_ z
 have D := am_ A
 clear z A
 have E := am_ n
 clear n
 have G := am_ o
 clear o
 have J := am_ p
 have K := am_ q
 clear p q
 have s := am_ a
 have T := am_ a.symm
 clear a
 have t := am_ g
 have W := am_ g.symm
 clear g
 have u := am_ i
 have X := am_ i.symm
 clear i
 have L := am_ P
 clear P
 have H : ((a0n.f k l0 d l m).bind fun y => (some (decide (y ≥ 0)))) = some r := h
 clear h
 replace H := bm_ H
 obtain ⟨y,Y,H⟩ := H
 have A4 := am_ Y
 clear Y
 obtain rfl := si_ H
 go_enter Try.func40,Try.ntmps40
 go_wp2_with (first | ((with_reducible refine a0r (f := 60) rfl ?_);refine a2a (some 7) rfl rfl Try.func60 (by kernel_rfl) rfl #[.slice A0 l0.length c0, .func (.func 54) #[] #[.pointer (some ⟨j,0,none⟩)]] rfl ql_ ?_;(with_reducible refine (a0n.calls k _ _ l0  j v x d l m b c gh_a2_2 y _ ?s1 a3.out ?s3 D.out ?s5 ?s6 ?s7 ?s8 ?s9 ?s10 ?s11 ?s12 A4.out).mono ?_);(case s1 => repeat (first | exact a2.out | (with_reducible refine Kd.a1t ?_ _) | (with_reducible refine Kd.a1u ?_ _) | (with_reducible refine Kd.a2h ?_)));(case s3 => repeat (first | exact B.out | (with_reducible refine Kd.a1t ?_ _) | (with_reducible refine Kd.a1u ?_ _) | (with_reducible refine Kd.a2h ?_)));(case s5 => exact (qk_ L));(case s6 => exact (qk_ E));(case s7 => exact (qk_ G));(case s8 => exact J.out);(case s9 => exact (fun e_ he_ => by obtain ⟨A_,c_,Z,a0,a1⟩ := K.out e_ he_;have HRm_ := am_ a1;exact ⟨A_,c_,Z,a0,by repeat (first | exact HRm_.out | (with_reducible refine Kd.a1t ?_ _) | (with_reducible refine Kd.a1u ?_ _) | (with_reducible refine Kd.a2h ?_))⟩));(case s10 => exact s.out);(case s11 => exact t.out);(case s12 => exact u.out);rintro e w' ⟨rfl,⟨nd,rfl⟩⟩;refine ⟨_,rfl,?_⟩))
 go_ret
 exact ⟨qs_,qy_⟩
end Go.Proofs.Ytheibjkjmkanoaa.Px
