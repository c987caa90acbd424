/- Contracts of Go functions, printed. Conditions: as each theorem states. -/
import Derived.Test.YtheibjkjmkanoaaPx0
namespace Go.Proofs.Ytheibjkjmkanoaa.Px
open Go.Proofs.Ytheibjkjmkanoaa.Given
open Go.RowKit Go.Proofs.YtheibjkjmkanoaaW.PrintWords Go.Proofs.YtheibjkjmkanoaaW.PrintLast Go.Proofs.YtheibjkjmkanoaaW.PrintMore
attribute [local go_sem] a3m a3n a3x a3y a3e a3f a3o a3p
set_option linter.unusedVariables false
set_option linter.unusedSimpArgs false
def a5d.f (a b : Int) : Option (Int) := some a
def cmp_isNaN_int.f (a0 : Int) : Option (Bool) := some (a0 != a0)
set_option maxHeartbeats 8000000 in
set_option maxRecDepth 100000 in
theorem cmp_isNaN_int.calls (a0 : Int) (r : Bool) (w : World) (h : cmp_isNaN_int.f a0 = some r) :
  Calls Try.prog 91 #[.int .i64 a0] w fun e w' => e = .returned (.bool r) ∧ a3u w w' := by
 have H : (some (a0 != a0)) = some r := h
 clear h
 obtain rfl := si_ H
 go_enter Try.func91,Try.ntmps91
 go_wp2
 go_ret
 exact ⟨qs_,qy_⟩
def cmp_Compare_int.f (a0 a1 : Int) : Option (Int) := (cmp_isNaN_int.f a0).bind fun b => ((cmp_isNaN_int.f a1).bind fun a => (if b = true then (if a = true then (some 0) else (some (-1))) else (if a = true then (some 1) else (if a0 < a1 then (some (-1)) else (if a0 > a1 then (some 1) else (some 0))))))
set_option maxHeartbeats 8000000 in
set_option maxRecDepth 100000 in
theorem cmp_Compare_int.calls (a0 a1 r : Int) (w : World) (h : cmp_Compare_int.f a0 a1 = some r) :
  Calls Try.prog 79 #[.int .i64 a0, .int .i64 a1] w fun e w' => e = .returned (.int .i64 r) ∧ a3u w w' := by
 have H : ((cmp_isNaN_int.f a0).bind fun b => ((cmp_isNaN_int.f a1).bind fun a => (if b = true then (if a = true then (some 0) else (some (-1))) else (if a = true then (some 1) else (if a0 < a1 then (some (-1)) else (if a0 > a1 then (some 1) else (some 0))))))) = some r := h
 clear h
 replace H := bm_ H
 obtain ⟨b,c,H⟩ := H
 have A3 := am_ c
 clear c
 replace H := bm_ H
 obtain ⟨a,d,H⟩ := H
 have A4 := am_ d
 clear d
 by_cases c5 : b = true
 ·subst c5
  replace H := qip_ H
  by_cases c6 : a = true
  ·subst c6
   replace H := qip_ H
   obtain rfl := si_ H
   go_enter Try.func79,Try.ntmps79
   go_wp2_with (first | ((with_reducible refine a0r (f := 91) rfl ?_);refine a2a (some 8) rfl rfl Try.func91 (by kernel_rfl) rfl #[.int .i64 a0] rfl ql_ ?_;(with_reducible refine (cmp_isNaN_int.calls a0 true _ A3.out).mono ?_);rintro e w' ⟨rfl,⟨nd,rfl⟩⟩;refine ⟨_,rfl,?_⟩) | ((with_reducible refine a0r (f := 91) rfl ?_);refine a2a (some 10) rfl rfl Try.func91 (by kernel_rfl) rfl #[.int .i64 a1] rfl ql_ ?_;(with_reducible refine (cmp_isNaN_int.calls a1 true _ A4.out).mono ?_);rintro e w' ⟨rfl,⟨nd,rfl⟩⟩;refine ⟨_,rfl,?_⟩))
   go_ret
   exact ⟨qs_,qy_⟩
  replace c6 := be_ c6
  subst c6
  replace H := qin_ H
  obtain rfl := si_ H
  go_enter Try.func79,Try.ntmps79
  go_wp2_with (first | ((with_reducible refine a0r (f := 91) rfl ?_);refine a2a (some 8) rfl rfl Try.func91 (by kernel_rfl) rfl #[.int .i64 a0] rfl ql_ ?_;(with_reducible refine (cmp_isNaN_int.calls a0 true _ A3.out).mono ?_);rintro e w' ⟨rfl,⟨nd,rfl⟩⟩;refine ⟨_,rfl,?_⟩) | ((with_reducible refine a0r (f := 91) rfl ?_);refine a2a (some 10) rfl rfl Try.func91 (by kernel_rfl) rfl #[.int .i64 a1] rfl ql_ ?_;(with_reducible refine (cmp_isNaN_int.calls a1 false _ A4.out).mono ?_);rintro e w' ⟨rfl,⟨nd,rfl⟩⟩;refine ⟨_,rfl,?_⟩))
  go_ret
  exact ⟨qs_,qy_⟩
 replace c5 := be_ c5
 subst c5
 replace H := qin_ H
 by_cases c7 : a = true
 ·subst c7
  replace H := qip_ H
  obtain rfl := si_ H
  go_enter Try.func79,Try.ntmps79
  go_wp2_with (first | ((with_reducible refine a0r (f := 91) rfl ?_);refine a2a (some 8) rfl rfl Try.func91 (by kernel_rfl) rfl #[.int .i64 a0] rfl ql_ ?_;(with_reducible refine (cmp_isNaN_int.calls a0 false _ A3.out).mono ?_);rintro e w' ⟨rfl,⟨nd,rfl⟩⟩;refine ⟨_,rfl,?_⟩) | ((with_reducible refine a0r (f := 91) rfl ?_);refine a2a (some 10) rfl rfl Try.func91 (by kernel_rfl) rfl #[.int .i64 a1] rfl ql_ ?_;(with_reducible refine (cmp_isNaN_int.calls a1 true _ A4.out).mono ?_);rintro e w' ⟨rfl,⟨nd,rfl⟩⟩;refine ⟨_,rfl,?_⟩))
  go_ret
  exact ⟨qs_,qy_⟩
 replace c7 := be_ c7
 subst c7
 replace H := qin_ H
 by_cases c8 : a0 < a1
 ·rw [if_pos c8] at H
  have g : decide (a0 < a1) = true := decide_eq_true c8
  clear c8
  obtain rfl := si_ H
  go_enter Try.func79,Try.ntmps79
  go_wp2_with (first | ((with_reducible refine a0r (f := 91) rfl ?_);refine a2a (some 8) rfl rfl Try.func91 (by kernel_rfl) rfl #[.int .i64 a0] rfl ql_ ?_;(with_reducible refine (cmp_isNaN_int.calls a0 false _ A3.out).mono ?_);rintro e w' ⟨rfl,⟨nd,rfl⟩⟩;refine ⟨_,rfl,?_⟩) | ((with_reducible refine a0r (f := 91) rfl ?_);refine a2a (some 10) rfl rfl Try.func91 (by kernel_rfl) rfl #[.int .i64 a1] rfl ql_ ?_;(with_reducible refine (cmp_isNaN_int.calls a1 false _ A4.out).mono ?_);rintro e w' ⟨rfl,⟨nd,rfl⟩⟩;refine ⟨_,rfl,?_⟩))
  go_ret
  exact ⟨qs_,qy_⟩
 rw [if_neg c8] at H
 have g : decide (a0 < a1) = false := decide_eq_false c8
 clear c8
 by_cases c9 : a0 > a1
 rotate_left
 ·rw [if_neg c9] at H
  have i : decide (a1 < a0) = false := decide_eq_false c9
  clear c9
  obtain rfl := si_ H
  go_enter Try.func79,Try.ntmps79
  go_wp2_with (first | ((with_reducible refine a0r (f := 91) rfl ?_);refine a2a (some 8) rfl rfl Try.func91 (by kernel_rfl) rfl #[.int .i64 a0] rfl ql_ ?_;(with_reducible refine (cmp_isNaN_int.calls a0 false _ A3.out).mono ?_);rintro e w' ⟨rfl,⟨nd,rfl⟩⟩;refine ⟨_,rfl,?_⟩) | ((with_reducible refine a0r (f := 91) rfl ?_);refine a2a (some 10) rfl rfl Try.func91 (by kernel_rfl) rfl #[.int .i64 a1] rfl ql_ ?_;(with_reducible refine (cmp_isNaN_int.calls a1 false _ A4.out).mono ?_);rintro e w' ⟨rfl,⟨nd,rfl⟩⟩;refine ⟨_,rfl,?_⟩))
  go_ret
  exact ⟨qs_,qy_⟩
 rw [if_pos c9] at H
 have i : decide (a1 < a0) = true := decide_eq_true c9
 clear c9
 obtain rfl := si_ H
 go_enter Try.func79,Try.ntmps79
 go_wp2_with (first | ((with_reducible refine a0r (f := 91) rfl ?_);refine a2a (some 8) rfl rfl Try.func91 (by kernel_rfl) rfl #[.int .i64 a0] rfl ql_ ?_;(with_reducible refine (cmp_isNaN_int.calls a0 false _ A3.out).mono ?_);rintro e w' ⟨rfl,⟨nd,rfl⟩⟩;refine ⟨_,rfl,?_⟩) | ((with_reducible refine a0r (f := 91) rfl ?_);refine a2a (some 10) rfl rfl Try.func91 (by kernel_rfl) rfl #[.int .i64 a1] rfl ql_ ?_;(with_reducible refine (cmp_isNaN_int.calls a1 false _ A4.out).mono ?_);rintro e w' ⟨rfl,⟨nd,rfl⟩⟩;refine ⟨_,rfl,?_⟩))
 go_ret
 exact ⟨qs_,qy_⟩
def a3t.f (a b c d : Int)  : Option (Int) := (a5d.f a b).bind fun e => ((a5d.f c d).bind fun g => ((cmp_Compare_int.f e g).bind fun h => (some h)))
def a3t.T1 : Bool × List (List Nat × List Nat) := (true,[([],[]),([],[]),([0,1],[0,1]),([],[]),([],[]),([3,4,2],[3,4]),([2,5,5],[2,5]),([6,6,0,1,2,3,4,5,6],[6])])
def a3t.B1 : List Nat := [0,0,3,0,0,31,63,127]
theorem a3t.tab1 : rtab .any (opsOf Try.f78 1) = a3t.T1 := by kernel_rfl
theorem a3t.a8h : a5i a3t.T1.2 a3t.B1 = true := by kernel_rfl
def a0y.f  : Option ((List (S51))) := some (([(⟨1,1,3,([] : List Int),(([2] : List Int))⟩ : S51),(⟨2,1,4,(([1] : List Int)),([] : List Int)⟩ : S51)] : List (S51)))
set_option maxHeartbeats 8000000 in
set_option maxRecDepth 100000 in
theorem a0y.calls  (r : List (S51)) (w : World) (h : a0y.f  = some r) :
  Calls Try.prog 28 #[] w fun e w' => ∃ t : Value,e = .returned (t) ∧ Kd.N k51 51 w' w.heap.size (fun k_ => (w.heap.size ≤ k_)) t r ∧ Below w.heap.size w w' := by
 have D := Try.underlying51
 have HB := am_ (Below.refl w.heap.size w)
 have H : (some (([(⟨1,1,3,([] : List Int),(([2] : List Int))⟩ : S51),(⟨2,1,4,(([1] : List Int)),([] : List Int)⟩ : S51)] : List (S51)))) = some r := h
 clear h
 obtain ⟨b,g⟩ : ∃ y_ : List Int,y_ = (([2] : List Int)) := ⟨_,rfl⟩
 replace H : (some (([(⟨1,1,3,([] : List Int),b⟩ : S51),(⟨2,1,4,(([1] : List Int)),([] : List Int)⟩ : S51)] : List (S51)))) = some r := by first | (rw [g];with_reducible exact H) | (have c := (Option.bind_some _ _).symm.trans H;rw [g];with_reducible exact c) | (have c := (Option.bind_some _ _).symm.trans H;with_reducible exact c) | with_reducible exact H | (rw [g];exact H) | exact H
 have o := am_ g
 clear g
 obtain ⟨d,i⟩ : ∃ y_ : List Int,y_ = (([1] : List Int)) := ⟨_,rfl⟩
 replace H : (some (([(⟨1,1,3,([] : List Int),b⟩ : S51),(⟨2,1,4,d,([] : List Int)⟩ : S51)] : List (S51)))) = some r := by first | (rw [i];with_reducible exact H) | (have c := (Option.bind_some _ _).symm.trans H;rw [i];with_reducible exact c) | (have c := (Option.bind_some _ _).symm.trans H;with_reducible exact c) | with_reducible exact H | (rw [i];exact H) | exact H
 have p := am_ i
 clear i
 obtain ⟨z,j⟩ : ∃ y_ : List (S51),y_ = (([(⟨1,1,3,([] : List Int),b⟩ : S51),(⟨2,1,4,d,([] : List Int)⟩ : S51)] : List (S51))) := ⟨_,rfl⟩
 replace H : (some z) = some r := by first | (rw [j];with_reducible exact H) | (have c := (Option.bind_some _ _).symm.trans H;rw [j];with_reducible exact c) | (have c := (Option.bind_some _ _).symm.trans H;with_reducible exact c) | with_reducible exact H | (rw [j];exact H) | exact H
 have q := am_ j
 clear j
 obtain rfl := si_ H
 go_enter Try.func28,Try.ntmps28
 go_wp2_with (first | ((with_reducible refine a0t (N := 1) rfl ?_);refine Kd.a5q (Kd.int .i64) _ 3 ?hg (N := 1) ?hd (xs := ([2] : List Int)) (inner := [.int .i64 2]) (ok := fun _ => True) (okp := fun _ => True) ?hr ?hp (fun _ hk => hk) trivial (Below.refl _ _) (Nat.le_refl _) (by simp) ?_;(case hd => rfl);(case hg => rfl);(case hr => exact qq_);(case hp => exact (Reps.one (show Kd.M (Kd.int .i64) _ _ _ 2 [.int .i64 2] from rfl) (Reps.none _ _)));intro E w1 m hb hg_ hnew_;clear hg_ hnew_;(first | rw [← o.out] at m | (simp only [Int.reduceToNat] at m;rw [← o.out] at m));have a := am_ (Kd.a4b (Kd.b4h (M := fun k_ => (w.heap.size ≤ k_)) m (a0z qb_) (fun k_ h_ => h_)) (a0z qb_));replace HB := qbs_ hb;clear hb m;obtain ⟨u,v,A⟩ := Kd.a3c a.out;subst A) | ((with_reducible refine a0t (N := 3) rfl ?_);refine Kd.a5q (Kd.int .i64) _ 3 ?hg (N := 3) ?hd (xs := ([1] : List Int)) (inner := [.int .i64 1]) (ok := fun _ => True) (okp := fun _ => True) ?hr ?hp (fun _ hk => hk) trivial (Below.refl _ _) (Nat.le_refl _) (by simp) ?_;(case hd => rfl);(case hg => rfl);(case hr => exact qq_);(case hp => exact (Reps.one (show Kd.M (Kd.int .i64) _ _ _ 1 [.int .i64 1] from rfl) (Reps.none _ _)));intro G w4 l hb hg_ hnew_;clear hg_ hnew_;(first | rw [← p.out] at l | (simp only [Int.reduceToNat] at l;rw [← p.out] at l));have k := am_ (Kd.a4b (Kd.a4d (Kd.b4h (M := fun k_ => (w.heap.size ≤ k_)) l (a0z qb_) (fun k_ h_ => h_)) (Kd.R_lt (qr_ a))) (a0z qb_));replace a := qel_ a l hb;replace HB := qbs_ hb;clear hb l;obtain ⟨x,y,B⟩ := Kd.a3c k.out;subst B) | ((with_reducible refine a0t (N := 5) rfl ?_);refine Kd.b9r k51 _ 51 ?hg (N' := 5) ?hd (xs := ([(⟨1,1,3,([] : List Int),b⟩ : S51),(⟨2,1,4,d,([] : List Int)⟩ : S51)] : List (S51))) (inner := [.int .i64 1, .int .i64 1, .int .i64 3, .slice none 0 0, .slice u b.length v, .int .i64 2, .int .i64 1, .int .i64 4, .slice x d.length y, .slice none 0 0]) (ok := (fun k_ => (w.heap.size ≤ k_))) (okp := (fun k_ => (w.heap.size ≤ k_))) ?hr ?hp (fun _ hk => hk) ((show ∀ k_,w4.heap.size ≤ k_ → (fun k_ => (w.heap.size ≤ k_)) k_ from fun k_ hk => (Nat.le_trans (a0z qb_) hk)) _ (Nat.le_refl _)) (Below.refl _ _) (Nat.le_refl _) (by simp) ?_;(case hd => rfl);(case hg => rfl);(case hr => exact qq_);(case hp => exact (Reps.c5 (show Kd.FK k51 _ _ (⟨1,1,3,([] : List Int),b⟩ : S51) [.int .i64 1, .int .i64 1, .int .i64 3, .slice none 0 0, .slice u b.length v] from (b5n _ _ (⟨1,1,3,([] : List Int),b⟩ : S51) (Nat.le_refl _) (Kd.b6p _ _ _) (Kd.a0s (Kd.a2f (ok' := (fun k_ => (w.heap.size ≤ k_))) (a.out) (fun k_ hk => hk.1.1))).2.1 (Kd.R_F (Kd.a2f (ok' := (fun k_ => (w.heap.size ≤ k_))) (a.out) (fun k_ hk => hk.1.1))))) (Reps.c5 (show Kd.FK k51 _ _ (⟨2,1,4,d,([] : List Int)⟩ : S51) [.int .i64 2, .int .i64 1, .int .i64 4, .slice x d.length y, .slice none 0 0] from (b5n _ _ (⟨2,1,4,d,([] : List Int)⟩ : S51) (Kd.a0s (Kd.a2f (ok' := (fun k_ => (w.heap.size ≤ k_))) (k.out) (fun k_ hk => hk.1.1))).2.1 (Kd.R_F (Kd.a2f (ok' := (fun k_ => (w.heap.size ≤ k_))) (k.out) (fun k_ hk => hk.1.1))) (Nat.le_refl _) (Kd.b6p _ _ _))) (Reps.none _ _))));intro J w7 n hb hg_ hnew_;clear hg_ hnew_;(first | rw [← q.out] at n | (simp only [Int.reduceToNat] at n;rw [← q.out] at n));have s := am_ (Kd.a6f n (a0z qb_));replace HB := qbs_ hb;clear a k hb n))
 go_ret
 exact ⟨_,qx_,by (with_reducible repeat (first | apply Kd.N_alloc | apply Kd.N_drewN | apply Kd.N_drew));exact s.out,qb_⟩
def a1c.f  : Option ((List (S58))) := some (([(⟨1,(([(⟨0,5⟩ : S56),(⟨8,20⟩ : S56)] : List (S56)))⟩ : S58)] : List (S58)))
set_option maxHeartbeats 8000000 in
set_option maxRecDepth 100000 in
theorem a1c.calls  (r : List (S58)) (w : World) (h : a1c.f  = some r) :
  Calls Try.prog 29 #[] w fun e w' => ∃ n : Value,e = .returned (n) ∧ Kd.N k58 58 w' w.heap.size (fun k_ => (w.heap.size ≤ k_)) n r ∧ Below w.heap.size w w' := by
 have t := Try.underlying56
 have u := Try.underlying58
 have HB := am_ (Below.refl w.heap.size w)
 have H : (some (([(⟨1,(([(⟨0,5⟩ : S56),(⟨8,20⟩ : S56)] : List (S56)))⟩ : S58)] : List (S58)))) = some r := h
 clear h
 obtain ⟨a,b⟩ : ∃ y_ : List (S56),y_ = (([(⟨0,5⟩ : S56),(⟨8,20⟩ : S56)] : List (S56))) := ⟨_,rfl⟩
 replace H : (some (([(⟨1,a⟩ : S58)] : List (S58)))) = some r := by first | (rw [b];with_reducible exact H) | (have g := (Option.bind_some _ _).symm.trans H;rw [b];with_reducible exact g) | (have g := (Option.bind_some _ _).symm.trans H;with_reducible exact g) | with_reducible exact H | (rw [b];exact H) | exact H
 have k := am_ b
 clear b
 obtain ⟨q,c⟩ : ∃ y_ : List (S58),y_ = (([(⟨1,a⟩ : S58)] : List (S58))) := ⟨_,rfl⟩
 replace H : (some q) = some r := by first | (rw [c];with_reducible exact H) | (have g := (Option.bind_some _ _).symm.trans H;rw [c];with_reducible exact g) | (have g := (Option.bind_some _ _).symm.trans H;with_reducible exact g) | with_reducible exact H | (rw [c];exact H) | exact H
 have l := am_ c
 clear c
 obtain rfl := si_ H
 go_enter Try.func29,Try.ntmps29
 go_wp2_with (first | ((with_reducible refine a0t (N := 3) rfl ?_);refine Kd.a5q k56 _ 56 ?hg (N := 3) ?hd (xs := ([(⟨0,5⟩ : S56),(⟨8,20⟩ : S56)] : List (S56))) (inner := [.int .i64 0, .int .i64 5, .int .i64 8, .int .i64 20]) (ok := fun _ => True) (okp := fun _ => True) ?hr ?hp (fun _ hk => hk) trivial (Below.refl _ _) (Nat.le_refl _) (by simp) ?_;(case hd => rfl);(case hg => rfl);(case hr => exact qq_);(case hp => exact (Reps.c2 (show Kd.M k56 _ _ _ (⟨0,5⟩ : S56) [.int .i64 0, .int .i64 5] from (a6p _ _ _ (⟨0,5⟩ : S56) )) (Reps.c2 (show Kd.M k56 _ _ _ (⟨8,20⟩ : S56) [.int .i64 8, .int .i64 20] from (a6p _ _ _ (⟨8,20⟩ : S56) )) (Reps.none _ _))));intro v w1 i hb hg_ hnew_;clear hg_ hnew_;(first | rw [← k.out] at i | (simp only [Int.reduceToNat] at i;rw [← k.out] at i));have d := am_ (Kd.a4b (Kd.b4h (M := fun k_ => (w.heap.size ≤ k_)) i (a0z qb_) (fun k_ h_ => h_)) (a0z qb_));replace HB := qbs_ hb;clear hb i;obtain ⟨o,p,s⟩ := Kd.a3c d.out;subst s) | ((with_reducible refine a0t (N := 5) rfl ?_);refine Kd.b9r k58 _ 58 ?hg (N' := 5) ?hd (xs := ([(⟨1,a⟩ : S58)] : List (S58))) (inner := [.int .i64 1, .slice o a.length p]) (ok := (fun k_ => (w.heap.size ≤ k_))) (okp := (fun k_ => (w.heap.size ≤ k_))) ?hr ?hp (fun _ hk => hk) ((show ∀ k_,w1.heap.size ≤ k_ → (fun k_ => (w.heap.size ≤ k_)) k_ from fun k_ hk => (Nat.le_trans (a0z qb_) hk)) _ (Nat.le_refl _)) (Below.refl _ _) (Nat.le_refl _) (by simp) ?_;(case hd => rfl);(case hg => rfl);(case hr => exact qq_);(case hp => exact (Reps.c2 (show Kd.FK k58 _ _ (⟨1,a⟩ : S58) [.int .i64 1, .slice o a.length p] from (c0j _ _ (⟨1,a⟩ : S58) (Kd.a0s (Kd.a2f (ok' := (fun k_ => (w.heap.size ≤ k_))) (d.out) (fun k_ hk => hk.1))).2.1 (Kd.R_F (Kd.a2f (ok' := (fun k_ => (w.heap.size ≤ k_))) (d.out) (fun k_ hk => hk.1))))) (Reps.none _ _)));intro x w4 j hb hg_ hnew_;clear hg_ hnew_;(first | rw [← l.out] at j | (simp only [Int.reduceToNat] at j;rw [← l.out] at j));have m := am_ (Kd.a6f j (a0z qb_));replace HB := qbs_ hb;clear d hb j))
 go_ret
 exact ⟨_,qx_,by (with_reducible repeat (first | apply Kd.N_alloc | apply Kd.N_drewN | apply Kd.N_drew));exact m.out,qb_⟩
def a5b.f (a b : Int) : Option (Bool) := if 0 ≤ a then (if a < b then (some (decide (b ≤ 36525))) else (some false)) else (some false)
set_option maxHeartbeats 8000000 in
set_option maxRecDepth 100000 in
theorem a5b.calls (a c : Int) (r : Bool) (w : World) (h : a5b.f a c = some r) :
  Calls Try.prog 66 #[.agg #[.int .i64 a, .int .i64 c]] w fun e w' => e = .returned (.bool r) ∧ Below w.heap.size w w' := by
 have z := Try.underlying56
 have HB := am_ (Below.refl w.heap.size w)
 have H : (if 0 ≤ a then (if a < c then (some (decide (c ≤ 36525))) else (some false)) else (some false)) = some r := h
 clear h
 by_cases c2 : 0 ≤ a
 rotate_left
 ·rw [if_neg c2] at H
  have j : decide (0 ≤ a) = false := decide_eq_false c2
  clear c2
  obtain rfl := si_ H
  go_enter Try.func66,Try.ntmps66
  go_wp2_with (first | ((with_reducible refine a0t (N := 1) rfl ?_);refine qev_ 1 #[.int .i64 a, .int .i64 c] 56 ?_;intro d hg w8 hbox hb;have b := am_ (hbox);have g := qga_ hg;have i := qga_ hg;replace HB := qbs_ hb;clear hb hbox hg;obtain ⟨l,m⟩ := qz2_ b;obtain ⟨n,o⟩ := qf2_ b))
  go_ret
  exact ⟨qx_,qb_⟩
 rw [if_pos c2] at H
 have j : decide (0 ≤ a) = true := decide_eq_true c2
 clear c2
 by_cases c3 : a < c
 rotate_left
 ·rw [if_neg c3] at H
  have k : decide (a < c) = false := decide_eq_false c3
  clear c3
  obtain rfl := si_ H
  go_enter Try.func66,Try.ntmps66
  go_wp2_with (first | ((with_reducible refine a0t (N := 1) rfl ?_);refine qev_ 1 #[.int .i64 a, .int .i64 c] 56 ?_;intro d hg w6 hbox hb;have b := am_ (hbox);have g := qga_ hg;have i := qga_ hg;replace HB := qbs_ hb;clear hb hbox hg;obtain ⟨p,q⟩ := qz2_ b;obtain ⟨s,t⟩ := qf2_ b))
  go_ret
  exact ⟨qx_,qb_⟩
 rw [if_pos c3] at H
 have k : decide (a < c) = true := decide_eq_true c3
 clear c3
 obtain rfl := si_ H
 go_enter Try.func66,Try.ntmps66
 go_wp2_with (first | ((with_reducible refine a0t (N := 1) rfl ?_);refine qev_ 1 #[.int .i64 a, .int .i64 c] 56 ?_;intro d hg w4 hbox hb;have b := am_ (hbox);have g := qga_ hg;have i := qga_ hg;replace HB := qbs_ hb;clear hb hbox hg;obtain ⟨u,v⟩ := qz2_ b;obtain ⟨x,y⟩ := qf2_ b))
 go_ret
 exact ⟨qx_,qb_⟩
end Go.Proofs.Ytheibjkjmkanoaa.Px
