/- What works.open fills: a map from the trades' numbers to the slices that the trades hold, told by the trades' places. Conditions: as each theorem states. -/
import Derived.Test.YtheibjkjmkanoaaGMapS
import Derived.Test.YtheibjkjmkanoaaPx0
namespace Go.Proofs.Ytheibjkjmkanoaa.Given
open Go.RowKit Go.MapKept Go.Proofs.YtheibjkjmkanoaaW.PrintWords Go.Proofs.YtheibjkjmkanoaaW.PrintLast Go.Proofs.Ytheibjkjmkanoaa.Px
set_option linter.unusedVariables false
set_option linter.unusedSimpArgs false
def trV (w : World) (A : Option Addr) (l : List S58) (i : Int) : Value :=
 if i.toNat < l.length then (match A with
  | some ad => (w.cell? ⟨(ad.add (i.toNat * 2)).block,(ad.add (i.toNat * 2)).off + 1,none⟩).getD (.slice none 0 0)
  | none => .slice none 0 0)
 else .slice none 0 0
def a4t (l : List S58) (M : List (Int × Int)) : List (Int × List S56) := M.map fun e => (e.1,(a2a l e.2).f1)
def ixgh (l : List S58) (V : Int → Value) (M : List (Int × Int)) : List (Int × (List S56 × Value)) := M.map fun e => (e.1,((a2a l e.2).f1,V e.2))
theorem b5x (l : List S58) (V : Int → Value) : ∀ (M : List (Int × Int)) (j : Nat),a5o (fun e_ : List S56 × Value => e_.2) (ixgh l V M) j = a5o V M j
 | [],_ => rfl
 | p :: t,j => by
  show ({ key := .int .i64 p.1,val := V p.2,born := j } : MapEntry) :: a5o _ (ixgh l V t) (j + 1) = { key := .int .i64 p.1,val := V p.2,born := j } :: a5o V t (j + 1)
  rw [b5x l V t (j + 1)]
theorem b5y (l : List S58) (V : Int → Value) (M : List (Int × Int)) : a1y (fun e_ : List S56 × Value => e_.2) (ixgh l V M) = a1y V M := by
 unfold a1y
 rw [b5x,show (ixgh l V M).length = M.length by simp [ixgh]]
theorem b4d (l : List S58) (V : Int → Value) (M : List (Int × Int)) : a5s (ixgh l V M) = a4t l M := by
 simp [a5s,ixgh,a4t,Function.comp_def]
theorem b7l (l : List S58) (k : Int) : ∀ M : List (Int × Int),a3q (a4t l M) k = (a3q M k).map fun i => (a2a l i).f1
 | [] => rfl
 | p :: t => by
  show (if p.1 = k then some (a2a l p.2).f1 else a3q (a4t l t) k) = ((if p.1 = k then some p.2 else a3q t k).map fun i => (a2a l i).f1)
  rw [b7l l k t]
  split <;> rfl
theorem c3i {w W : World} {ad : Addr} {l : List S58} (hC : Kd.C k58 w (some ad) l.length l) (hB : Below w.heap.size w W) {i : Int} (h0 : 0 ≤ i) (h1 : i < l.length) {v : Value}
  (hx : W.cell? ⟨(ad.add (i.toNat * 2)).block,(ad.add (i.toNat * 2)).off + 1,none⟩ = some v) : trV w (some ad) l i = v := by
 obtain ⟨b,A1,c1,e,c,a,_,_⟩ := a6w hC i h0 h1
 obtain rfl : ad = b := si_ e
 have h2 := (hB.cell (World.block_lt_of_cell? _ _ a)).trans a
 have h3 := si_ (hx.symm.trans h2)
 unfold trV
 rw [if_pos (by omega)]
 show (w.cell? _).getD _ = v
 rw [a,h3]
 rfl
theorem c3j {w : World} {A : Option Addr} {l : List S58} (hC : Kd.C k58 w A l.length l) (i : Int) : ∃ A2 c,trV w A l i = .slice A2 (a2a l i).f1.length c ∧ (a2a l i).f1.length ≤ c ∧ Kd.C k56 w A2 (a2a l i).f1.length (a2a l i).f1 := by
 by_cases h : i.toNat < l.length
 rotate_left
 ·have e : a2a l i = z58 := by
   unfold a2a
   rw [List.getD_eq_getElem?_getD,List.getElem?_eq_none (by omega)]
   rfl
  rw [e]
  refine ⟨none,0,?_,Nat.le_refl _,⟨rfl,by simp [z58],fun h => by simp [z58] at h⟩⟩
  unfold trV
  rw [if_neg h]
  rfl
 obtain ⟨ad,A1,c1,rfl,b,a,h1,h2⟩ := a6w hC (i.toNat : Int) (by omega) (by omega)
 have e : a2a l (i.toNat : Int) = a2a l i := by unfold a2a;rw [Int.toNat_natCast]
 rw [e] at a h1 h2
 refine ⟨A1,c1,?_,h1,h2⟩
 unfold trV
 rw [if_pos h]
 show (w.cell? _).getD _ = _
 rw [Int.toNat_natCast] at a
 rw [a]
 rfl
theorem b4e {w : World} {A : Option Addr} {l : List S58} {V : Int → Value} (hV : ∀ i,V i = trV w A l i) (hC : Kd.C k58 w A l.length l) (M : List (Int × Int)) : a5g k56 w (ixgh l V M) := fun e he => by
 obtain ⟨p,_,rfl⟩ := List.mem_map.1 he
 obtain ⟨A2,c,h1,h2,h3⟩ := c3j hC p.2
 exact ⟨A2,c,(hV _).trans h1,h2,h3⟩
theorem c0c {w W : World} {A : Option Addr} {l : List S58} (hC : Kd.C k58 w A l.length l) (hB : Below w.heap.size w W) (i : Int) : trV W A l i = trV w A l i := by
 unfold trV
 split
 ·rename_i h
  obtain ⟨ad,A1,c1,rfl,b,a,h1,h2⟩ := a6w hC (i.toNat : Int) (by omega) (by omega)
  rw [Int.toNat_natCast] at a
  have h2 := (hB.cell (World.block_lt_of_cell? _ _ a)).trans a
  show (W.cell? _).getD _ = (w.cell? _).getD _
  rw [a,h2]
 rfl
def c1m (V : Int → Value) (v : Value) (b : Bool) (M1 M2 : List (Int × Int)) (w : World) (e : Ending) (w' : World) : Prop :=
 ∃ (Aq : Option Addr) (nq cq : Nat) (m1 m2 : Option Nat),e = .returned (.tuple #[.agg #[.slice Aq nq cq, .map m1, .map m2], .bool b]) ∧
  (b = true → .slice Aq nq cq = v ∧ ∃ g1 g2 : Nat,m1 = some g1 ∧ m2 = some g2 ∧ w.heap.size ≤ g1 ∧ w.heap.size ≤ g2 ∧ g1 ≠ g2 ∧ w'.heap[g1]? = some (a1y (Value.int .i64) M1) ∧ w'.heap[g2]? = some (a1y V M2)) ∧ Below w.heap.size w w'
section
variable {P : Program} {ops : Array Oper} {rest : List Oper} {o : Oper} {a : Act} {Q : Exit → Act → World → Prop}
theorem a9m {α : Type} {enc : α → Value} {W : World} (hgd : o.guard = none) {N : Tmp} (hd : o.dst = some N) {T K E : TypeId} {m x : Operand} (ho : o.op = .lookup T m x true) {g : Nat} {M : List (Int × α)} {k : Int} {z : Value}
  (hT : P.underlying T = some (.map K E)) (hK : P.underlying K = some (.int .i64)) (hz : (zeroValue E).run P W = .ok z W) (hb : W.heap[g]? = some (a1y enc M)) (hm : a.eval m = .map (some g)) (hx : a.eval x = .int .i64 k)
  (h : ∀ v,wpList P ops Q rest (a.put o.dst (.tuple #[v, .bool (mhas M k)])) W) : wpList P ops Q (o :: rest) a W := by
 refine a8j hgd hd ho hT hK hz hb hm hx ?_
 rw [if_pos rfl]
 exact h _
end
end Go.Proofs.Ytheibjkjmkanoaa.Given
/- Contracts of Go functions, written by a program of this session's own (wip/tools/myprint.py) out of the translation: each Go function does what the Lean function of its name says. Conditions: as each theorem states. -/
namespace Go.Proofs.Ytheibjkjmkanoaa.Px
open Go.Proofs.Ytheibjkjmkanoaa.Given
open Go.RowKit Go.Proofs.YtheibjkjmkanoaaW.PrintWords Go.Proofs.YtheibjkjmkanoaaW.PrintLast Go.Proofs.YtheibjkjmkanoaaW.PrintMore
attribute [local go_sem] a3r a3s a4e a4f a3k a3l a3t a3u
set_option linter.unusedVariables false
set_option linter.unusedSimpArgs false
def a5k.f (a b : Int) : Option (Int) := some a
def cmp_isNaN_int.f (a0 : Int) : Option (Bool) := some (a0 != a0)
set_option maxHeartbeats 8000000 in
set_option maxRecDepth 100000 in
theorem cmp_isNaN_int.calls (a0 : Int) (r : Bool) (w : World) (h : cmp_isNaN_int.f a0 = some r) :
  Calls Try.prog 91 #[.int .i64 a0] w fun e w' => e = .returned (.bool r) ∧ a3v w w' := by
 have H : (some (a0 != a0)) = some r := h
 clear h
 obtain rfl := si_ H
 go_enter Try.func91,Try.ntmps91
 go_wp2
 go_ret
 exact ⟨qs_,qy_⟩
def cmp_Compare_int.f (a0 a1 : Int) : Option (Int) := (cmp_isNaN_int.f a0).bind fun b => ((cmp_isNaN_int.f a1).bind fun a => (if b = true then (if a = true then (some 0) else (some (-1))) else (if a = true then (some 1) else (if a0 < a1 then (some (-1)) else (if a0 > a1 then (some 1) else (some 0))))))
set_option maxHeartbeats 8000000 in
set_option maxRecDepth 100000 in
theorem cmp_Compare_int.calls (a0 a1 r : Int) (w : World) (h : cmp_Compare_int.f a0 a1 = some r) :
  Calls Try.prog 79 #[.int .i64 a0, .int .i64 a1] w fun e w' => e = .returned (.int .i64 r) ∧ a3v w w' := by
 have H : ((cmp_isNaN_int.f a0).bind fun b => ((cmp_isNaN_int.f a1).bind fun a => (if b = true then (if a = true then (some 0) else (some (-1))) else (if a = true then (some 1) else (if a0 < a1 then (some (-1)) else (if a0 > a1 then (some 1) else (some 0))))))) = some r := h
 clear h
 replace H := bm_ H
 obtain ⟨b,c,H⟩ := H
 have A3 := am_ c
 clear c
 replace H := bm_ H
 obtain ⟨a,d,H⟩ := H
 have A4 := am_ d
 clear d
 by_cases c5 : b = true
 ·subst c5
  replace H := qip_ H
  by_cases c6 : a = true
  ·subst c6
   replace H := qip_ H
   obtain rfl := si_ H
   go_enter Try.func79,Try.ntmps79
   go_wp2_with (first | ((with_reducible refine a0i (f := 91) rfl ?_);refine a1i (some 8) rfl rfl Try.func91 (by kernel_rfl) rfl #[.int .i64 a0] rfl ql_ ?_;(with_reducible refine (cmp_isNaN_int.calls a0 true _ A3.out).mono ?_);rintro e w' ⟨rfl,⟨nd,rfl⟩⟩;refine ⟨_,rfl,?_⟩) | ((with_reducible refine a0i (f := 91) rfl ?_);refine a1i (some 10) rfl rfl Try.func91 (by kernel_rfl) rfl #[.int .i64 a1] rfl ql_ ?_;(with_reducible refine (cmp_isNaN_int.calls a1 true _ A4.out).mono ?_);rintro e w' ⟨rfl,⟨nd,rfl⟩⟩;refine ⟨_,rfl,?_⟩))
   go_ret
   exact ⟨qs_,qy_⟩
  replace c6 := be_ c6
  subst c6
  replace H := qin_ H
  obtain rfl := si_ H
  go_enter Try.func79,Try.ntmps79
  go_wp2_with (first | ((with_reducible refine a0i (f := 91) rfl ?_);refine a1i (some 8) rfl rfl Try.func91 (by kernel_rfl) rfl #[.int .i64 a0] rfl ql_ ?_;(with_reducible refine (cmp_isNaN_int.calls a0 true _ A3.out).mono ?_);rintro e w' ⟨rfl,⟨nd,rfl⟩⟩;refine ⟨_,rfl,?_⟩) | ((with_reducible refine a0i (f := 91) rfl ?_);refine a1i (some 10) rfl rfl Try.func91 (by kernel_rfl) rfl #[.int .i64 a1] rfl ql_ ?_;(with_reducible refine (cmp_isNaN_int.calls a1 false _ A4.out).mono ?_);rintro e w' ⟨rfl,⟨nd,rfl⟩⟩;refine ⟨_,rfl,?_⟩))
  go_ret
  exact ⟨qs_,qy_⟩
 replace c5 := be_ c5
 subst c5
 replace H := qin_ H
 by_cases c7 : a = true
 ·subst c7
  replace H := qip_ H
  obtain rfl := si_ H
  go_enter Try.func79,Try.ntmps79
  go_wp2_with (first | ((with_reducible refine a0i (f := 91) rfl ?_);refine a1i (some 8) rfl rfl Try.func91 (by kernel_rfl) rfl #[.int .i64 a0] rfl ql_ ?_;(with_reducible refine (cmp_isNaN_int.calls a0 false _ A3.out).mono ?_);rintro e w' ⟨rfl,⟨nd,rfl⟩⟩;refine ⟨_,rfl,?_⟩) | ((with_reducible refine a0i (f := 91) rfl ?_);refine a1i (some 10) rfl rfl Try.func91 (by kernel_rfl) rfl #[.int .i64 a1] rfl ql_ ?_;(with_reducible refine (cmp_isNaN_int.calls a1 true _ A4.out).mono ?_);rintro e w' ⟨rfl,⟨nd,rfl⟩⟩;refine ⟨_,rfl,?_⟩))
  go_ret
  exact ⟨qs_,qy_⟩
 replace c7 := be_ c7
 subst c7
 replace H := qin_ H
 by_cases c8 : a0 < a1
 ·rw [if_pos c8] at H
  have g : decide (a0 < a1) = true := decide_eq_true c8
  clear c8
  obtain rfl := si_ H
  go_enter Try.func79,Try.ntmps79
  go_wp2_with (first | ((with_reducible refine a0i (f := 91) rfl ?_);refine a1i (some 8) rfl rfl Try.func91 (by kernel_rfl) rfl #[.int .i64 a0] rfl ql_ ?_;(with_reducible refine (cmp_isNaN_int.calls a0 false _ A3.out).mono ?_);rintro e w' ⟨rfl,⟨nd,rfl⟩⟩;refine ⟨_,rfl,?_⟩) | ((with_reducible refine a0i (f := 91) rfl ?_);refine a1i (some 10) rfl rfl Try.func91 (by kernel_rfl) rfl #[.int .i64 a1] rfl ql_ ?_;(with_reducible refine (cmp_isNaN_int.calls a1 false _ A4.out).mono ?_);rintro e w' ⟨rfl,⟨nd,rfl⟩⟩;refine ⟨_,rfl,?_⟩))
  go_ret
  exact ⟨qs_,qy_⟩
 rw [if_neg c8] at H
 have g : decide (a0 < a1) = false := decide_eq_false c8
 clear c8
 by_cases c9 : a0 > a1
 rotate_left
 ·rw [if_neg c9] at H
  have i : decide (a1 < a0) = false := decide_eq_false c9
  clear c9
  obtain rfl := si_ H
  go_enter Try.func79,Try.ntmps79
  go_wp2_with (first | ((with_reducible refine a0i (f := 91) rfl ?_);refine a1i (some 8) rfl rfl Try.func91 (by kernel_rfl) rfl #[.int .i64 a0] rfl ql_ ?_;(with_reducible refine (cmp_isNaN_int.calls a0 false _ A3.out).mono ?_);rintro e w' ⟨rfl,⟨nd,rfl⟩⟩;refine ⟨_,rfl,?_⟩) | ((with_reducible refine a0i (f := 91) rfl ?_);refine a1i (some 10) rfl rfl Try.func91 (by kernel_rfl) rfl #[.int .i64 a1] rfl ql_ ?_;(with_reducible refine (cmp_isNaN_int.calls a1 false _ A4.out).mono ?_);rintro e w' ⟨rfl,⟨nd,rfl⟩⟩;refine ⟨_,rfl,?_⟩))
  go_ret
  exact ⟨qs_,qy_⟩
 rw [if_pos c9] at H
 have i : decide (a1 < a0) = true := decide_eq_true c9
 clear c9
 obtain rfl := si_ H
 go_enter Try.func79,Try.ntmps79
 go_wp2_with (first | ((with_reducible refine a0i (f := 91) rfl ?_);refine a1i (some 8) rfl rfl Try.func91 (by kernel_rfl) rfl #[.int .i64 a0] rfl ql_ ?_;(with_reducible refine (cmp_isNaN_int.calls a0 false _ A3.out).mono ?_);rintro e w' ⟨rfl,⟨nd,rfl⟩⟩;refine ⟨_,rfl,?_⟩) | ((with_reducible refine a0i (f := 91) rfl ?_);refine a1i (some 10) rfl rfl Try.func91 (by kernel_rfl) rfl #[.int .i64 a1] rfl ql_ ?_;(with_reducible refine (cmp_isNaN_int.calls a1 false _ A4.out).mono ?_);rintro e w' ⟨rfl,⟨nd,rfl⟩⟩;refine ⟨_,rfl,?_⟩))
 go_ret
 exact ⟨qs_,qy_⟩
def a4d.f (a b c d : Int)  : Option (Int) := (a5k.f a b).bind fun e => ((a5k.f c d).bind fun g => ((cmp_Compare_int.f e g).bind fun h => (some h)))
def a4d.T1 : Bool × List (List Nat × List Nat) := (true,[([],[]),([],[]),([0,1],[0,1]),([],[]),([],[]),([3,4,2],[3,4]),([2,5,5],[2,5]),([6,6,0,1,2,3,4,5,6],[6])])
def a4d.B1 : List Nat := [0,0,3,0,0,31,63,127]
theorem a4d.tab1 : rtab .any (opsOf Try.f78 1) = a4d.T1 := by kernel_rfl
theorem a4d.a8y : a5l a4d.T1.2 a4d.B1 = true := by kernel_rfl
def a1o.f  : Option ((List (S51))) := some (([(⟨1,1,3,([] : List Int),(([2] : List Int))⟩ : S51),(⟨2,1,4,(([1] : List Int)),([] : List Int)⟩ : S51)] : List (S51)))
set_option maxHeartbeats 8000000 in
set_option maxRecDepth 100000 in
theorem a1o.calls  (r : List (S51)) (w : World) (h : a1o.f  = some r) :
  Calls Try.prog 28 #[] w fun e w' => ∃ t : Value,e = .returned (t) ∧ Kd.N k51 51 w' w.heap.size (fun k_ => (w.heap.size ≤ k_)) t r ∧ Below w.heap.size w w' := by
 have D := Try.underlying51
 have HB := am_ (Below.refl w.heap.size w)
 have H : (some (([(⟨1,1,3,([] : List Int),(([2] : List Int))⟩ : S51),(⟨2,1,4,(([1] : List Int)),([] : List Int)⟩ : S51)] : List (S51)))) = some r := h
 clear h
 obtain ⟨b,g⟩ : ∃ y_ : List Int,y_ = (([2] : List Int)) := ⟨_,rfl⟩
 replace H : (some (([(⟨1,1,3,([] : List Int),b⟩ : S51),(⟨2,1,4,(([1] : List Int)),([] : List Int)⟩ : S51)] : List (S51)))) = some r := by first | (rw [g];with_reducible exact H) | (have c := (Option.bind_some _ _).symm.trans H;rw [g];with_reducible exact c) | (have c := (Option.bind_some _ _).symm.trans H;with_reducible exact c) | with_reducible exact H | (rw [g];exact H) | exact H
 have o := am_ g
 clear g
 obtain ⟨d,i⟩ : ∃ y_ : List Int,y_ = (([1] : List Int)) := ⟨_,rfl⟩
 replace H : (some (([(⟨1,1,3,([] : List Int),b⟩ : S51),(⟨2,1,4,d,([] : List Int)⟩ : S51)] : List (S51)))) = some r := by first | (rw [i];with_reducible exact H) | (have c := (Option.bind_some _ _).symm.trans H;rw [i];with_reducible exact c) | (have c := (Option.bind_some _ _).symm.trans H;with_reducible exact c) | with_reducible exact H | (rw [i];exact H) | exact H
 have p := am_ i
 clear i
 obtain ⟨z,j⟩ : ∃ y_ : List (S51),y_ = (([(⟨1,1,3,([] : List Int),b⟩ : S51),(⟨2,1,4,d,([] : List Int)⟩ : S51)] : List (S51))) := ⟨_,rfl⟩
 replace H : (some z) = some r := by first | (rw [j];with_reducible exact H) | (have c := (Option.bind_some _ _).symm.trans H;rw [j];with_reducible exact c) | (have c := (Option.bind_some _ _).symm.trans H;with_reducible exact c) | with_reducible exact H | (rw [j];exact H) | exact H
 have q := am_ j
 clear j
 obtain rfl := si_ H
 go_enter Try.func28,Try.ntmps28
 go_wp2_with (first | ((with_reducible refine a1d (N := 1) rfl ?_);refine Kd.a6e (Kd.int .i64) _ 3 ?hg (N := 1) ?hd (xs := ([2] : List Int)) (inner := [.int .i64 2]) (ok := fun _ => True) (okp := fun _ => True) ?hr ?hp (fun _ hk => hk) trivial (Below.refl _ _) (Nat.le_refl _) (by simp) ?_;(case hd => rfl);(case hg => rfl);(case hr => exact qq_);(case hp => exact (Reps.one (show Kd.M (Kd.int .i64) _ _ _ 2 [.int .i64 2] from rfl) (Reps.none _ _)));intro E w1 m hb hg_ hnew_;clear hg_ hnew_;(first | rw [← o.out] at m | (simp only [Int.reduceToNat] at m;rw [← o.out] at m));have a := am_ (Kd.a3b (Kd.b5v (M := fun k_ => (w.heap.size ≤ k_)) m (a0r qb_) (fun k_ h_ => h_)) (a0r qb_));replace HB := qbs_ hb;clear hb m;obtain ⟨u,v,A⟩ := Kd.a3c a.out;subst A) | ((with_reducible refine a1d (N := 3) rfl ?_);refine Kd.a6e (Kd.int .i64) _ 3 ?hg (N := 3) ?hd (xs := ([1] : List Int)) (inner := [.int .i64 1]) (ok := fun _ => True) (okp := fun _ => True) ?hr ?hp (fun _ hk => hk) trivial (Below.refl _ _) (Nat.le_refl _) (by simp) ?_;(case hd => rfl);(case hg => rfl);(case hr => exact qq_);(case hp => exact (Reps.one (show Kd.M (Kd.int .i64) _ _ _ 1 [.int .i64 1] from rfl) (Reps.none _ _)));intro G w4 l hb hg_ hnew_;clear hg_ hnew_;(first | rw [← p.out] at l | (simp only [Int.reduceToNat] at l;rw [← p.out] at l));have k := am_ (Kd.a3b (Kd.a4a (Kd.b5v (M := fun k_ => (w.heap.size ≤ k_)) l (a0r qb_) (fun k_ h_ => h_)) (Kd.R_lt (qr_ a))) (a0r qb_));replace a := qel_ a l hb;replace HB := qbs_ hb;clear hb l;obtain ⟨x,y,B⟩ := Kd.a3c k.out;subst B) | ((with_reducible refine a1d (N := 5) rfl ?_);refine Kd.c2j k51 _ 51 ?hg (N' := 5) ?hd (xs := ([(⟨1,1,3,([] : List Int),b⟩ : S51),(⟨2,1,4,d,([] : List Int)⟩ : S51)] : List (S51))) (inner := [.int .i64 1, .int .i64 1, .int .i64 3, .slice none 0 0, .slice u b.length v, .int .i64 2, .int .i64 1, .int .i64 4, .slice x d.length y, .slice none 0 0]) (ok := (fun k_ => (w.heap.size ≤ k_))) (okp := (fun k_ => (w.heap.size ≤ k_))) ?hr ?hp (fun _ hk => hk) ((show ∀ k_,w4.heap.size ≤ k_ → (fun k_ => (w.heap.size ≤ k_)) k_ from fun k_ hk => (Nat.le_trans (a0r qb_) hk)) _ (Nat.le_refl _)) (Below.refl _ _) (Nat.le_refl _) (by simp) ?_;(case hd => rfl);(case hg => rfl);(case hr => exact qq_);(case hp => exact (Reps.c5 (show Kd.FK k51 _ _ (⟨1,1,3,([] : List Int),b⟩ : S51) [.int .i64 1, .int .i64 1, .int .i64 3, .slice none 0 0, .slice u b.length v] from (b7k _ _ (⟨1,1,3,([] : List Int),b⟩ : S51) (Nat.le_refl _) (Kd.b8q _ _ _) (Kd.a1g (Kd.a2x (ok' := (fun k_ => (w.heap.size ≤ k_))) (a.out) (fun k_ hk => hk.1.1))).2.1 (Kd.R_F (Kd.a2x (ok' := (fun k_ => (w.heap.size ≤ k_))) (a.out) (fun k_ hk => hk.1.1))))) (Reps.c5 (show Kd.FK k51 _ _ (⟨2,1,4,d,([] : List Int)⟩ : S51) [.int .i64 2, .int .i64 1, .int .i64 4, .slice x d.length y, .slice none 0 0] from (b7k _ _ (⟨2,1,4,d,([] : List Int)⟩ : S51) (Kd.a1g (Kd.a2x (ok' := (fun k_ => (w.heap.size ≤ k_))) (k.out) (fun k_ hk => hk.1.1))).2.1 (Kd.R_F (Kd.a2x (ok' := (fun k_ => (w.heap.size ≤ k_))) (k.out) (fun k_ hk => hk.1.1))) (Nat.le_refl _) (Kd.b8q _ _ _))) (Reps.none _ _))));intro I w7 n hb hg_ hnew_;clear hg_ hnew_;(first | rw [← q.out] at n | (simp only [Int.reduceToNat] at n;rw [← q.out] at n));have s := am_ (Kd.a6h n (a0r qb_));replace HB := qbs_ hb;clear a k hb n))
 go_ret
 exact ⟨_,qx_,by (with_reducible repeat (first | apply Kd.N_alloc | apply Kd.N_drewN | apply Kd.N_drew));exact s.out,qb_⟩
def a1r.f  : Option ((List (S58))) := some (([(⟨1,(([(⟨0,5⟩ : S56),(⟨8,20⟩ : S56)] : List (S56)))⟩ : S58)] : List (S58)))
set_option maxHeartbeats 8000000 in
set_option maxRecDepth 100000 in
theorem a1r.calls  (r : List (S58)) (w : World) (h : a1r.f  = some r) :
  Calls Try.prog 29 #[] w fun e w' => ∃ n : Value,e = .returned (n) ∧ Kd.N k58 58 w' w.heap.size (fun k_ => (w.heap.size ≤ k_)) n r ∧ Below w.heap.size w w' := by
 have t := Try.underlying56
 have u := Try.underlying58
 have HB := am_ (Below.refl w.heap.size w)
 have H : (some (([(⟨1,(([(⟨0,5⟩ : S56),(⟨8,20⟩ : S56)] : List (S56)))⟩ : S58)] : List (S58)))) = some r := h
 clear h
 obtain ⟨a,b⟩ : ∃ y_ : List (S56),y_ = (([(⟨0,5⟩ : S56),(⟨8,20⟩ : S56)] : List (S56))) := ⟨_,rfl⟩
 replace H : (some (([(⟨1,a⟩ : S58)] : List (S58)))) = some r := by first | (rw [b];with_reducible exact H) | (have g := (Option.bind_some _ _).symm.trans H;rw [b];with_reducible exact g) | (have g := (Option.bind_some _ _).symm.trans H;with_reducible exact g) | with_reducible exact H | (rw [b];exact H) | exact H
 have k := am_ b
 clear b
 obtain ⟨q,c⟩ : ∃ y_ : List (S58),y_ = (([(⟨1,a⟩ : S58)] : List (S58))) := ⟨_,rfl⟩
 replace H : (some q) = some r := by first | (rw [c];with_reducible exact H) | (have g := (Option.bind_some _ _).symm.trans H;rw [c];with_reducible exact g) | (have g := (Option.bind_some _ _).symm.trans H;with_reducible exact g) | with_reducible exact H | (rw [c];exact H) | exact H
 have l := am_ c
 clear c
 obtain rfl := si_ H
 go_enter Try.func29,Try.ntmps29
 go_wp2_with (first | ((with_reducible refine a1d (N := 3) rfl ?_);refine Kd.a6e k56 _ 56 ?hg (N := 3) ?hd (xs := ([(⟨0,5⟩ : S56),(⟨8,20⟩ : S56)] : List (S56))) (inner := [.int .i64 0, .int .i64 5, .int .i64 8, .int .i64 20]) (ok := fun _ => True) (okp := fun _ => True) ?hr ?hp (fun _ hk => hk) trivial (Below.refl _ _) (Nat.le_refl _) (by simp) ?_;(case hd => rfl);(case hg => rfl);(case hr => exact qq_);(case hp => exact (Reps.c2 (show Kd.M k56 _ _ _ (⟨0,5⟩ : S56) [.int .i64 0, .int .i64 5] from (a6r _ _ _ (⟨0,5⟩ : S56) )) (Reps.c2 (show Kd.M k56 _ _ _ (⟨8,20⟩ : S56) [.int .i64 8, .int .i64 20] from (a6r _ _ _ (⟨8,20⟩ : S56) )) (Reps.none _ _))));intro v w1 i hb hg_ hnew_;clear hg_ hnew_;(first | rw [← k.out] at i | (simp only [Int.reduceToNat] at i;rw [← k.out] at i));have d := am_ (Kd.a3b (Kd.b5v (M := fun k_ => (w.heap.size ≤ k_)) i (a0r qb_) (fun k_ h_ => h_)) (a0r qb_));replace HB := qbs_ hb;clear hb i;obtain ⟨o,p,s⟩ := Kd.a3c d.out;subst s) | ((with_reducible refine a1d (N := 5) rfl ?_);refine Kd.c2j k58 _ 58 ?hg (N' := 5) ?hd (xs := ([(⟨1,a⟩ : S58)] : List (S58))) (inner := [.int .i64 1, .slice o a.length p]) (ok := (fun k_ => (w.heap.size ≤ k_))) (okp := (fun k_ => (w.heap.size ≤ k_))) ?hr ?hp (fun _ hk => hk) ((show ∀ k_,w1.heap.size ≤ k_ → (fun k_ => (w.heap.size ≤ k_)) k_ from fun k_ hk => (Nat.le_trans (a0r qb_) hk)) _ (Nat.le_refl _)) (Below.refl _ _) (Nat.le_refl _) (by simp) ?_;(case hd => rfl);(case hg => rfl);(case hr => exact qq_);(case hp => exact (Reps.c2 (show Kd.FK k58 _ _ (⟨1,a⟩ : S58) [.int .i64 1, .slice o a.length p] from (c3f _ _ (⟨1,a⟩ : S58) (Kd.a1g (Kd.a2x (ok' := (fun k_ => (w.heap.size ≤ k_))) (d.out) (fun k_ hk => hk.1))).2.1 (Kd.R_F (Kd.a2x (ok' := (fun k_ => (w.heap.size ≤ k_))) (d.out) (fun k_ hk => hk.1))))) (Reps.none _ _)));intro x w4 j hb hg_ hnew_;clear hg_ hnew_;(first | rw [← l.out] at j | (simp only [Int.reduceToNat] at j;rw [← l.out] at j));have m := am_ (Kd.a6h j (a0r qb_));replace HB := qbs_ hb;clear d hb j))
 go_ret
 exact ⟨_,qx_,by (with_reducible repeat (first | apply Kd.N_alloc | apply Kd.N_drewN | apply Kd.N_drew));exact m.out,qb_⟩
def a5h.f (a b : Int) : Option (Bool) := if 0 ≤ a then (if a < b then (some (decide (b ≤ 36525))) else (some false)) else (some false)
set_option maxHeartbeats 8000000 in
set_option maxRecDepth 100000 in
theorem a5h.calls (a c : Int) (r : Bool) (w : World) (h : a5h.f a c = some r) :
  Calls Try.prog 66 #[.agg #[.int .i64 a, .int .i64 c]] w fun e w' => e = .returned (.bool r) ∧ Below w.heap.size w w' := by
 have z := Try.underlying56
 have HB := am_ (Below.refl w.heap.size w)
 have H : (if 0 ≤ a then (if a < c then (some (decide (c ≤ 36525))) else (some false)) else (some false)) = some r := h
 clear h
 by_cases c2 : 0 ≤ a
 rotate_left
 ·rw [if_neg c2] at H
  have j : decide (0 ≤ a) = false := decide_eq_false c2
  clear c2
  obtain rfl := si_ H
  go_enter Try.func66,Try.ntmps66
  go_wp2_with (first | ((with_reducible refine a1d (N := 1) rfl ?_);refine qev_ 1 #[.int .i64 a, .int .i64 c] 56 ?_;intro d hg w8 hbox hb;have b := am_ (hbox);have g := qga_ hg;have i := qga_ hg;replace HB := qbs_ hb;clear hb hbox hg;obtain ⟨l,m⟩ := qz2_ b;obtain ⟨n,o⟩ := qf2_ b))
  go_ret
  exact ⟨qx_,qb_⟩
 rw [if_pos c2] at H
 have j : decide (0 ≤ a) = true := decide_eq_true c2
 clear c2
 by_cases c3 : a < c
 rotate_left
 ·rw [if_neg c3] at H
  have k : decide (a < c) = false := decide_eq_false c3
  clear c3
  obtain rfl := si_ H
  go_enter Try.func66,Try.ntmps66
  go_wp2_with (first | ((with_reducible refine a1d (N := 1) rfl ?_);refine qev_ 1 #[.int .i64 a, .int .i64 c] 56 ?_;intro d hg w6 hbox hb;have b := am_ (hbox);have g := qga_ hg;have i := qga_ hg;replace HB := qbs_ hb;clear hb hbox hg;obtain ⟨p,q⟩ := qz2_ b;obtain ⟨s,t⟩ := qf2_ b))
  go_ret
  exact ⟨qx_,qb_⟩
 rw [if_pos c3] at H
 have k : decide (a < c) = true := decide_eq_true c3
 clear c3
 obtain rfl := si_ H
 go_enter Try.func66,Try.ntmps66
 go_wp2_with (first | ((with_reducible refine a1d (N := 1) rfl ?_);refine qev_ 1 #[.int .i64 a, .int .i64 c] 56 ?_;intro d hg w4 hbox hb;have b := am_ (hbox);have g := qga_ hg;have i := qga_ hg;replace HB := qbs_ hb;clear hb hbox hg;obtain ⟨u,v⟩ := qz2_ b;obtain ⟨x,y⟩ := qf2_ b))
 go_ret
 exact ⟨qx_,qb_⟩
end Go.Proofs.Ytheibjkjmkanoaa.Px
/- Contracts of Go functions, written by a program of this session's own (wip/tools/myprint.py) out of the translation: each Go function does what the Lean function of its name says. Conditions: as each theorem states. -/
namespace Go.Proofs.Ytheibjkjmkanoaa.Px
open Go.Proofs.Ytheibjkjmkanoaa.Given
open Go.RowKit Go.Proofs.YtheibjkjmkanoaaW.PrintWords Go.Proofs.YtheibjkjmkanoaaW.PrintLast Go.Proofs.YtheibjkjmkanoaaW.PrintMore
attribute [local go_sem] a3r a3s a4e a4f a3k a3l a3t a3u
set_option linter.unusedVariables false
set_option linter.unusedSimpArgs false
mutual
def a2e.l0 : Nat → List (S56) → Int → Int → Option (Bool)
 | 0,_,_,_ => none
 | k + 1,x0,x5,x6 => if x6 < x5 then (if 0 ≤ x6 then (if x6 < (x0.length : Int) then ((a5h.f ((a0h x0 x6).f0) ((a0h x0 x6).f1)).bind fun a => (if a = true then (if x6 > 0 then (if 0 ≤ (wrap64 (x6 - 1)) then (if (wrap64 (x6 - 1)) < (x0.length : Int) then (a2e.j1 k x0 x5 x6 (decide (((a0h x0 (wrap64 (x6 - 1))).f1) ≥ ((a0h x0 x6).f0)))) else (none)) else (none)) else (a2e.j1 k x0 x5 x6 false)) else (a2e.j1 k x0 x5 x6 true))) else (none)) else (none)) else (some (decide ((x0.length : Int) ≤ 1000)))
def a2e.j1 : Nat → List (S56) → Int → Int → Bool → Option (Bool)
 | 0,_,_,_,_ => none
 | k + 1,x0,x5,x6,a => if a = true then (some false) else (a2e.l0 k x0 x5 (wrap64 (x6 + 1)))
end
def a2e.f (k : Nat) (l0 : List (S56)) : Option (Bool) := a2e.l0 k l0 (l0.length : Int) 0
theorem a2e.a1t : ∀ k,(∀ y0 y1 y2,LeO (a2e.l0 k y0 y1 y2) (a2e.l0 (k + 1) y0 y1 y2)) ∧ (∀ y0 y1 y2 y3,LeO (a2e.j1 k y0 y1 y2 y3) (a2e.j1 (k + 1) y0 y1 y2 y3))
 | 0 => ⟨fun _ _ _ r h => by simp [a2e.l0] at h,fun _ _ _ _ r h => by simp [a2e.j1] at h⟩
 | k + 1 => by
  obtain ⟨a,b⟩ := a2e.a1t k
  refine ⟨?_,?_⟩ <;> intros <;> (first | unfold a2e.l0 | unfold a2e.j1) <;> with_reducible (repeat' first | apply a | apply b | apply LeO.refl | apply LeO.none | apply LeO.ite | refine LeO.bind ?_ (fun _ => ?_))
theorem a2e.mono : ∀ a0 k,LeO (a2e.f k a0) (a2e.f (k + 1) a0) := by
 intro a0 k
 obtain ⟨a,b⟩ := a2e.a1t k
 unfold a2e.f
 with_reducible (repeat' first | apply a | apply b | apply LeO.refl | apply LeO.none | apply LeO.ite | refine LeO.bind ?_ (fun _ => ?_))
def a2e.T4 : Bool × List (List Nat × List Nat) := (true,[([],[]),([],[]),([0,1],[0,1]),([2],[2]),([3],[3]),([4],[4]),([5,4],[5]),([6],[6]),([7,6],[6,7]),([8,6,6],[6,8]),([9],[9]),([9],[9]),([11,9],[9,11]),([10,12,9],[9,10,12]),([13,9],[9,13]),([14,9],[9,14]),([9],[9]),([9],[9]),([16,17,9],[9,16,17]),([18,9],[9,18]),([19,9],[9,19]),([15,20,9],[9,15,20]),([9,21,6],[6,9,21]),([6,22],[6,22])])
def a2e.B4 : List Nat := [0,0,3,7,15,31,63,127,255,511,1023,1023,3071,8191,16383,32767,1023,1023,197631,459775,984063,2097151,4194303,8388607]
theorem a2e.tab4 : rtab .any (opsOf Try.f49 4) = a2e.T4 := by kernel_rfl
theorem a2e.b3l : a5l a2e.T4.2 a2e.B4 = true := by kernel_rfl
set_option maxHeartbeats 8000000 in
set_option maxRecDepth 100000 in
theorem a2e.calls (k : Nat) (A0 : Option Addr) (c0 : Nat) (l0 : List (S56)) (r : Bool) (w : World) (X : Kd.C k56 w A0 l0.length l0) (a0 : l0.length ≤ c0) (h : a2e.f k l0 = some r) :
  Calls Try.prog 49 #[.slice A0 l0.length c0] w fun e w' => e = .returned (.bool r) ∧ Below w.heap.size w w' := by
 have ac := Try.underlying56
 have J := am_ X
 have ae := am_ a0
 clear X a0
 have HB := am_ (Below.refl w.heap.size w)
 have H : (a2e.l0 k l0 (l0.length : Int) 0) = some r := h
 clear h
 have H' := am_ H
 clear H
 go_enter Try.func49,Try.ntmps49
 go_wp2
 go_loopg [6] k (fun kq v6 w' => ∃ (a : Int),v6 = .int .i64 a ∧ Aside0 (a2e.l0 kq l0 (l0.length : Int) a = some r) ∧ Aside0 (kq ≤ k) ∧ Aside0 (Below w.heap.size w w'))
 case atStart => exact ⟨(0),qs_,H',⟨Nat.le_refl _⟩,⟨qb_⟩⟩
 case round =>
 clear H'
 obtain ⟨a,rfl,HA,L,HB⟩ := hrel
 cases gk with
 | zero => exact absurd HA.out (by simp [a2e.l0])
 | succ k1 =>
 have H := HA.out
 clear HA
 simp only [a2e.l0] at H
 by_cases c2 : a < (l0.length : Int)
 rotate_left
 ·rw [if_neg c2] at H
  have a4 : decide (a < (l0.length : Int)) = false := decide_eq_false c2
  clear c2
  obtain rfl := si_ H
  go_wp2
  go_ret
  exact ⟨qx_,qb_⟩
 rw [if_pos c2] at H
 have a4 : decide (a < (l0.length : Int)) = true := decide_eq_true c2
 clear c2
 have O := am_ H
 clear H
 go_upto_region 4 with (fail)
 go_cut [32] (fun a8 wc => ∃ (kq : Nat) (A : Bool),a8 = .bool A ∧ Aside0 (a2e.j1 kq l0 (l0.length : Int) a A = some r) ∧ Aside0 (kq ≤ k1) ∧ Aside0 (Below w.heap.size w wc))
 case first =>
  have H := O.out
  clear O
  obtain ⟨P,H⟩ := qid_ H
  (first | rw [P] | (simp only [a4m,a4v];rw [P]) | skip)
  obtain ⟨ad,H⟩ := qid_ H
  replace H := bm_ H
  obtain ⟨a5,a1,H⟩ := H
  have A6 := am_ a1
  clear a1
  by_cases c7 : a5 = true
  rotate_left
  ·replace c7 := be_ c7
   subst c7
   replace H := qin_ H
   have H' := am_ H
   clear H
   try go_wp2
   replace HB := am_ (ld_ HB.out)
   have l : 0 ≤ (a : Int) := ot_
   have m : a < (l0.length : Int) := ot_
   obtain ⟨j,B,b,c⟩ := a5d J.out a l m
   have d := c
   have g := b
   cases B
   replace b := qh_ HB b
   replace c := qh_ HB c
   replace l := eq_true l
   replace m := eq_true m
   refine a4r (n := 24) (S := fun w' => w'.cell? (j.add ((a).toNat * 2)) = some (.int .i64 ((a0h l0 a).f0)) ∧ w'.cell? ⟨(j.add ((a).toNat * 2)).block,(j.add ((a).toNat * 2)).off + 1,none⟩ = some (.int .i64 ((a0h l0 a).f1))) (ds := []) #[Y,Y,Y,Y,Y,Y,Y,Y,Y,Y,Y,Y,Y,Y,Y,Y,Y,Y,Y,Y,Y,Y,Y,Y] (by kernel_rfl) rfl rfl ⟨((HB.out.cell (World.block_lt_of_cell? w _ g)).trans g),((HB.out.cell (World.block_lt_of_cell? w _ d)).trans d)⟩ (fun hHeld => ?_);refine a3n a2e.tab4 a2e.b3l (fun HT_ HW_ => ?_)
   generalize wr.drew = af at HB b c hHeld ⊢
   refine qpu_ 0 (some 9) #[Z,Y,Y,Y,Y,Y,Y,Y,Y,Y,Y,Y,Y,Y,Y,Y,Y,Y,Y,Y,Y,Y,Y,Y] ?_
   refine qpu_ 1 (some 10) #[Z,Z,Y,Y,Y,Y,Y,Y,Y,Y,Y,Y,Y,Y,Y,Y,Y,Y,Y,Y,Y,Y,Y,Y] ?_
   refine qpu_ 2 (some 11) #[Z,Z,Z,Y,Y,Y,Y,Y,Y,Y,Y,Y,Y,Y,Y,Y,Y,Y,Y,Y,Y,Y,Y,Y] ?_
   refine c2h 3 (some 12) #[Z,Z,Z,Z,Y,Y,Y,Y,Y,Y,Y,Y,Y,Y,Y,Y,Y,Y,Y,Y,Y,Y,Y,Y] hHeld ?_
   refine one_ (i := 4) (N := some 13) #[Z,Z,Z,Z,Z,Y,Y,Y,Y,Y,Y,Y,Y,Y,Y,Y,Y,Y,Y,Y,Y,Y,Y,Y] rfl rfl (a4n HT_.out (by kernel_rfl)) (by decide) (fun K hK => ?_)
   refine a5f Try.func66 (by kernel_rfl) rfl #[.agg #[.int .i64 ((a0h l0 a).f0), .int .i64 ((a0h l0 a).f1)]] (by rfl) rfl rfl ql_ ?_
   with_reducible refine (a5h.calls ((a0h l0 a).f0) ((a0h l0 a).f1) false _ A6.out).mono ?_
   rintro e ag ⟨rfl,hb⟩
   refine ⟨_,rfl,?_⟩
   replace HB := qbs_ hb
   (try clear hb)
   (try clear a2)
   (try clear hk)
   (try clear hi)
   refine hK.out _ _ ⟨((HB.out.cell (World.block_lt_of_cell? w _ g)).trans g),((HB.out.cell (World.block_lt_of_cell? w _ d)).trans d)⟩ (fun hHeld => ?_)
   clear hK K
   refine a4p (a' := ?_) ?_ ?_
   rotate_left
   ·show Act.put _ (some 13) _ = _
    exact qp_
   refine qpu_ 5 (some 14) #[Z,Z,Z,Z,Z,Z,Y,Y,Y,Y,Y,Y,Y,Y,Y,Y,Y,Y,Y,Y,Y,Y,Y,Y] ?_
   refine qpu_ 6 (some 15) #[Z,Z,Z,Z,Z,Z,Z,Y,Y,Y,Y,Y,Y,Y,Y,Y,Y,Y,Y,Y,Y,Y,Y,Y] ?_
   refine qpv_ 7 (some 16) #[Z,Z,Z,Z,Z,Z,Z,Z,Y,Y,Y,Y,Y,Y,Y,Y,Y,Y,Y,Y,Y,Y,Y,Y] ?_
   refine qpv_ 8 (some 17) #[Z,Z,Z,Z,Z,Z,Z,Z,Z,Y,Y,Y,Y,Y,Y,Y,Y,Y,Y,Y,Y,Y,Y,Y] ?_
   refine qpv_ 9 (some 18) #[Z,Z,Z,Z,Z,Z,Z,Z,Z,Z,Y,Y,Y,Y,Y,Y,Y,Y,Y,Y,Y,Y,Y,Y] ?_
   refine qpv_ 10 (some 19) #[Z,Z,Z,Z,Z,Z,Z,Z,Z,Z,Z,Y,Y,Y,Y,Y,Y,Y,Y,Y,Y,Y,Y,Y] ?_
   refine qpv_ 11 (some 20) #[Z,Z,Z,Z,Z,Z,Z,Z,Z,Z,Z,Z,Y,Y,Y,Y,Y,Y,Y,Y,Y,Y,Y,Y] ?_
   refine qpv_ 12 (some 21) #[Z,Z,Z,Z,Z,Z,Z,Z,Z,Z,Z,Z,Z,Y,Y,Y,Y,Y,Y,Y,Y,Y,Y,Y] ?_
   refine qpv_ 13 (some 22) #[Z,Z,Z,Z,Z,Z,Z,Z,Z,Z,Z,Z,Z,Z,Y,Y,Y,Y,Y,Y,Y,Y,Y,Y] ?_
   refine qpv_ 14 (some 23) #[Z,Z,Z,Z,Z,Z,Z,Z,Z,Z,Z,Z,Z,Z,Z,Y,Y,Y,Y,Y,Y,Y,Y,Y] ?_
   refine qpv_ 15 (some 24) #[Z,Z,Z,Z,Z,Z,Z,Z,Z,Z,Z,Z,Z,Z,Z,Z,Y,Y,Y,Y,Y,Y,Y,Y] ?_
   refine qpv_ 16 (some 25) #[Z,Z,Z,Z,Z,Z,Z,Z,Z,Z,Z,Z,Z,Z,Z,Z,Z,Y,Y,Y,Y,Y,Y,Y] ?_
   refine qpv_ 17 (some 26) #[Z,Z,Z,Z,Z,Z,Z,Z,Z,Z,Z,Z,Z,Z,Z,Z,Z,Z,Y,Y,Y,Y,Y,Y] ?_
   refine qpv_ 18 (some 27) #[Z,Z,Z,Z,Z,Z,Z,Z,Z,Z,Z,Z,Z,Z,Z,Z,Z,Z,Z,Y,Y,Y,Y,Y] ?_
   refine qpv_ 19 (some 28) #[Z,Z,Z,Z,Z,Z,Z,Z,Z,Z,Z,Z,Z,Z,Z,Z,Z,Z,Z,Z,Y,Y,Y,Y] ?_
   refine qpv_ 20 (some 29) #[Z,Z,Z,Z,Z,Z,Z,Z,Z,Z,Z,Z,Z,Z,Z,Z,Z,Z,Z,Z,Z,Y,Y,Y] ?_
   refine qpv_ 21 (some 30) #[Z,Z,Z,Z,Z,Z,Z,Z,Z,Z,Z,Z,Z,Z,Z,Z,Z,Z,Z,Z,Z,Z,Y,Y] ?_
   refine qpv_ 22 (some 31) #[Z,Z,Z,Z,Z,Z,Z,Z,Z,Z,Z,Z,Z,Z,Z,Z,Z,Z,Z,Z,Z,Z,Z,Y] ?_
   refine qpu_ 23 (some 32) #[Z,Z,Z,Z,Z,Z,Z,Z,Z,Z,Z,Z,Z,Z,Z,Z,Z,Z,Z,Z,Z,Z,Z,Z] ?_
   refine a5a (a4h HT_.out (by kernel_rfl)) ?_
   try go_wp2
   go_meet
   case rel => exact ⟨_,(true),qs_,H',⟨by have := L.out;first | omega | exact Nat.le_refl _⟩,⟨qb_⟩⟩
  subst c7
  replace H := qip_ H
  by_cases c8 : a > 0
  rotate_left
  ·rw [if_neg c8] at H
   have T : decide (0 < a) = false := decide_eq_false c8
   clear c8
   have H' := am_ H
   clear H
   try go_wp2
   replace HB := am_ (ld_ HB.out)
   have l : 0 ≤ (a : Int) := ot_
   have m : a < (l0.length : Int) := ot_
   obtain ⟨j,B,b,c⟩ := a5d J.out a l m
   have d := c
   have g := b
   cases B
   replace b := qh_ HB b
   replace c := qh_ HB c
   replace l := eq_true l
   replace m := eq_true m
   refine a4r (n := 24) (S := fun w' => w'.cell? (j.add ((a).toNat * 2)) = some (.int .i64 ((a0h l0 a).f0)) ∧ w'.cell? ⟨(j.add ((a).toNat * 2)).block,(j.add ((a).toNat * 2)).off + 1,none⟩ = some (.int .i64 ((a0h l0 a).f1))) (ds := []) #[Y,Y,Y,Y,Y,Y,Y,Y,Y,Y,Y,Y,Y,Y,Y,Y,Y,Y,Y,Y,Y,Y,Y,Y] (by kernel_rfl) rfl rfl ⟨((HB.out.cell (World.block_lt_of_cell? w _ g)).trans g),((HB.out.cell (World.block_lt_of_cell? w _ d)).trans d)⟩ (fun hHeld => ?_);refine a3n a2e.tab4 a2e.b3l (fun HT_ HW_ => ?_)
   generalize wr.drew = ah at HB b c hHeld ⊢
   refine qpu_ 0 (some 9) #[Z,Y,Y,Y,Y,Y,Y,Y,Y,Y,Y,Y,Y,Y,Y,Y,Y,Y,Y,Y,Y,Y,Y,Y] ?_
   refine qpu_ 1 (some 10) #[Z,Z,Y,Y,Y,Y,Y,Y,Y,Y,Y,Y,Y,Y,Y,Y,Y,Y,Y,Y,Y,Y,Y,Y] ?_
   refine qpu_ 2 (some 11) #[Z,Z,Z,Y,Y,Y,Y,Y,Y,Y,Y,Y,Y,Y,Y,Y,Y,Y,Y,Y,Y,Y,Y,Y] ?_
   refine c2h 3 (some 12) #[Z,Z,Z,Z,Y,Y,Y,Y,Y,Y,Y,Y,Y,Y,Y,Y,Y,Y,Y,Y,Y,Y,Y,Y] hHeld ?_
   refine one_ (i := 4) (N := some 13) #[Z,Z,Z,Z,Z,Y,Y,Y,Y,Y,Y,Y,Y,Y,Y,Y,Y,Y,Y,Y,Y,Y,Y,Y] rfl rfl (a4n HT_.out (by kernel_rfl)) (by decide) (fun K hK => ?_)
   refine a5f Try.func66 (by kernel_rfl) rfl #[.agg #[.int .i64 ((a0h l0 a).f0), .int .i64 ((a0h l0 a).f1)]] (by rfl) rfl rfl ql_ ?_
   with_reducible refine (a5h.calls ((a0h l0 a).f0) ((a0h l0 a).f1) true _ A6.out).mono ?_
   rintro e ai ⟨rfl,hb⟩
   refine ⟨_,rfl,?_⟩
   replace HB := qbs_ hb
   (try clear hb)
   (try clear a2)
   (try clear hk)
   (try clear hi)
   refine hK.out _ _ ⟨((HB.out.cell (World.block_lt_of_cell? w _ g)).trans g),((HB.out.cell (World.block_lt_of_cell? w _ d)).trans d)⟩ (fun hHeld => ?_)
   clear hK K
   refine a4p (a' := ?_) ?_ ?_
   rotate_left
   ·show Act.put _ (some 13) _ = _
    exact qp_
   refine qpu_ 5 (some 14) #[Z,Z,Z,Z,Z,Z,Y,Y,Y,Y,Y,Y,Y,Y,Y,Y,Y,Y,Y,Y,Y,Y,Y,Y] ?_
   refine qpu_ 6 (some 15) #[Z,Z,Z,Z,Z,Z,Z,Y,Y,Y,Y,Y,Y,Y,Y,Y,Y,Y,Y,Y,Y,Y,Y,Y] ?_
   refine qpu_ 7 (some 16) #[Z,Z,Z,Z,Z,Z,Z,Z,Y,Y,Y,Y,Y,Y,Y,Y,Y,Y,Y,Y,Y,Y,Y,Y] ?_
   refine qpu_ 8 (some 17) #[Z,Z,Z,Z,Z,Z,Z,Z,Z,Y,Y,Y,Y,Y,Y,Y,Y,Y,Y,Y,Y,Y,Y,Y] ?_
   refine qpu_ 9 (some 18) #[Z,Z,Z,Z,Z,Z,Z,Z,Z,Z,Y,Y,Y,Y,Y,Y,Y,Y,Y,Y,Y,Y,Y,Y] ?_
   refine qpv_ 10 (some 19) #[Z,Z,Z,Z,Z,Z,Z,Z,Z,Z,Z,Y,Y,Y,Y,Y,Y,Y,Y,Y,Y,Y,Y,Y] ?_
   refine qpv_ 11 (some 20) #[Z,Z,Z,Z,Z,Z,Z,Z,Z,Z,Z,Z,Y,Y,Y,Y,Y,Y,Y,Y,Y,Y,Y,Y] ?_
   refine qpv_ 12 (some 21) #[Z,Z,Z,Z,Z,Z,Z,Z,Z,Z,Z,Z,Z,Y,Y,Y,Y,Y,Y,Y,Y,Y,Y,Y] ?_
   refine qpv_ 13 (some 22) #[Z,Z,Z,Z,Z,Z,Z,Z,Z,Z,Z,Z,Z,Z,Y,Y,Y,Y,Y,Y,Y,Y,Y,Y] ?_
   refine qpv_ 14 (some 23) #[Z,Z,Z,Z,Z,Z,Z,Z,Z,Z,Z,Z,Z,Z,Z,Y,Y,Y,Y,Y,Y,Y,Y,Y] ?_
   refine qpv_ 15 (some 24) #[Z,Z,Z,Z,Z,Z,Z,Z,Z,Z,Z,Z,Z,Z,Z,Z,Y,Y,Y,Y,Y,Y,Y,Y] ?_
   refine qpv_ 16 (some 25) #[Z,Z,Z,Z,Z,Z,Z,Z,Z,Z,Z,Z,Z,Z,Z,Z,Z,Y,Y,Y,Y,Y,Y,Y] ?_
   refine qpv_ 17 (some 26) #[Z,Z,Z,Z,Z,Z,Z,Z,Z,Z,Z,Z,Z,Z,Z,Z,Z,Z,Y,Y,Y,Y,Y,Y] ?_
   refine qpv_ 18 (some 27) #[Z,Z,Z,Z,Z,Z,Z,Z,Z,Z,Z,Z,Z,Z,Z,Z,Z,Z,Z,Y,Y,Y,Y,Y] ?_
   refine qpv_ 19 (some 28) #[Z,Z,Z,Z,Z,Z,Z,Z,Z,Z,Z,Z,Z,Z,Z,Z,Z,Z,Z,Z,Y,Y,Y,Y] ?_
   refine qpv_ 20 (some 29) #[Z,Z,Z,Z,Z,Z,Z,Z,Z,Z,Z,Z,Z,Z,Z,Z,Z,Z,Z,Z,Z,Y,Y,Y] ?_
   refine qpv_ 21 (some 30) #[Z,Z,Z,Z,Z,Z,Z,Z,Z,Z,Z,Z,Z,Z,Z,Z,Z,Z,Z,Z,Z,Z,Y,Y] ?_
   refine qpu_ 22 (some 31) #[Z,Z,Z,Z,Z,Z,Z,Z,Z,Z,Z,Z,Z,Z,Z,Z,Z,Z,Z,Z,Z,Z,Z,Y] ?_
   refine qpu_ 23 (some 32) #[Z,Z,Z,Z,Z,Z,Z,Z,Z,Z,Z,Z,Z,Z,Z,Z,Z,Z,Z,Z,Z,Z,Z,Z] ?_
   refine a5a (a4h HT_.out (by kernel_rfl)) ?_
   try go_wp2
   go_meet
   case rel => exact ⟨_,(false),qs_,H',⟨by have := L.out;first | omega | exact Nat.le_refl _⟩,⟨qb_⟩⟩
  rw [if_pos c8] at H
  have T : decide (0 < a) = true := decide_eq_true c8
  clear c8
  obtain ⟨t,z⟩ : ∃ j_ : Int,(wrap64 (a - 1)) = j_ := ⟨_,rfl⟩
  replace H : (if 0 ≤ (t) then (if (t) < (l0.length : Int) then (a2e.j1 k1 l0 (l0.length : Int) a (decide (((a0h l0 (t)).f1) ≥ ((a0h l0 a).f0)))) else (none)) else (none)) = some r := by first | (rw [z] at H;exact H) | (simp only [z] at H ⊢;exact H)
  (try rw [z] at A6)
  have hji9w : (IntKind.i64.wrap (a - 1)) = t := (a4m _).trans z
  obtain ⟨aa,H⟩ := qid_ H
  obtain ⟨ab,H⟩ := qid_ H
  have H' := am_ H
  clear H
  try go_wp2
  replace HB := am_ (ld_ HB.out)
  have l : 0 ≤ (a : Int) := ot_
  have m : a < (l0.length : Int) := ot_
  obtain ⟨j,B,b,c⟩ := a5d J.out a l m
  have d := c
  have g := b
  cases B
  replace b := qh_ HB b
  replace c := qh_ HB c
  replace l := eq_true l
  replace m := eq_true m
  have D : 0 ≤ ((t) : Int) := ot_
  have E : (t) < (l0.length : Int) := ot_
  obtain ⟨U,a6,o,p⟩ := a5d J.out (t) D E
  have u := p
  have v := o
  obtain rfl : j = U := (by injection a6)
  replace o := qh_ HB o
  replace p := qh_ HB p
  replace D := eq_true D
  replace E := eq_true E
  have G : 0 ≤ (a : Int) := ot_
  have I : a < (l0.length : Int) := ot_
  obtain ⟨W,a7,q,s⟩ := a5d J.out a G I
  have x := s
  have y := q
  obtain rfl : j = W := (by injection a7)
  replace q := qh_ HB q
  replace s := qh_ HB s
  replace G := eq_true G
  replace I := eq_true I
  refine a4r (n := 24) (S := fun w' => w'.cell? (j.add ((a).toNat * 2)) = some (.int .i64 ((a0h l0 a).f0)) ∧ w'.cell? ⟨(j.add ((a).toNat * 2)).block,(j.add ((a).toNat * 2)).off + 1,none⟩ = some (.int .i64 ((a0h l0 a).f1)) ∧ w'.cell? (j.add (((t)).toNat * 2)) = some (.int .i64 ((a0h l0 (t)).f0)) ∧ w'.cell? ⟨(j.add (((t)).toNat * 2)).block,(j.add (((t)).toNat * 2)).off + 1,none⟩ = some (.int .i64 ((a0h l0 (t)).f1)) ∧ w'.cell? (j.add ((a).toNat * 2)) = some (.int .i64 ((a0h l0 a).f0)) ∧ w'.cell? ⟨(j.add ((a).toNat * 2)).block,(j.add ((a).toNat * 2)).off + 1,none⟩ = some (.int .i64 ((a0h l0 a).f1))) (ds := []) #[Y,Y,Y,Y,Y,Y,Y,Y,Y,Y,Y,Y,Y,Y,Y,Y,Y,Y,Y,Y,Y,Y,Y,Y] (by kernel_rfl) rfl rfl ⟨((HB.out.cell (World.block_lt_of_cell? w _ g)).trans g),((HB.out.cell (World.block_lt_of_cell? w _ d)).trans d),((HB.out.cell (World.block_lt_of_cell? w _ v)).trans v),((HB.out.cell (World.block_lt_of_cell? w _ u)).trans u),((HB.out.cell (World.block_lt_of_cell? w _ y)).trans y),((HB.out.cell (World.block_lt_of_cell? w _ x)).trans x)⟩ (fun hHeld => ?_);refine a3n a2e.tab4 a2e.b3l (fun HT_ HW_ => ?_)
  generalize wr.drew = aj at HB b c o p q s hHeld ⊢
  refine qpu_ 0 (some 9) #[Z,Y,Y,Y,Y,Y,Y,Y,Y,Y,Y,Y,Y,Y,Y,Y,Y,Y,Y,Y,Y,Y,Y,Y] ?_
  refine qpu_ 1 (some 10) #[Z,Z,Y,Y,Y,Y,Y,Y,Y,Y,Y,Y,Y,Y,Y,Y,Y,Y,Y,Y,Y,Y,Y,Y] ?_
  refine qpu_ 2 (some 11) #[Z,Z,Z,Y,Y,Y,Y,Y,Y,Y,Y,Y,Y,Y,Y,Y,Y,Y,Y,Y,Y,Y,Y,Y] ?_
  refine a6d 3 (some 12) #[Z,Z,Z,Z,Y,Y,Y,Y,Y,Y,Y,Y,Y,Y,Y,Y,Y,Y,Y,Y,Y,Y,Y,Y] hHeld ?_
  refine one_ (i := 4) (N := some 13) #[Z,Z,Z,Z,Z,Y,Y,Y,Y,Y,Y,Y,Y,Y,Y,Y,Y,Y,Y,Y,Y,Y,Y,Y] rfl rfl (a4n HT_.out (by kernel_rfl)) (by decide) (fun K hK => ?_)
  refine a5f Try.func66 (by kernel_rfl) rfl #[.agg #[.int .i64 ((a0h l0 a).f0), .int .i64 ((a0h l0 a).f1)]] (by rfl) rfl rfl ql_ ?_
  with_reducible refine (a5h.calls ((a0h l0 a).f0) ((a0h l0 a).f1) true _ A6.out).mono ?_
  rintro e ak ⟨rfl,hb⟩
  refine ⟨_,rfl,?_⟩
  replace HB := qbs_ hb
  (try clear hb)
  (try clear a2)
  (try clear hk)
  (try clear hi)
  refine hK.out _ _ ⟨((HB.out.cell (World.block_lt_of_cell? w _ g)).trans g),((HB.out.cell (World.block_lt_of_cell? w _ d)).trans d),((HB.out.cell (World.block_lt_of_cell? w _ v)).trans v),((HB.out.cell (World.block_lt_of_cell? w _ u)).trans u),((HB.out.cell (World.block_lt_of_cell? w _ y)).trans y),((HB.out.cell (World.block_lt_of_cell? w _ x)).trans x)⟩ (fun hHeld => ?_)
  clear hK K
  refine a4p (a' := ?_) ?_ ?_
  rotate_left
  ·show Act.put _ (some 13) _ = _
   exact qp_
  refine qpu_ 5 (some 14) #[Z,Z,Z,Z,Z,Z,Y,Y,Y,Y,Y,Y,Y,Y,Y,Y,Y,Y,Y,Y,Y,Y,Y,Y] ?_
  refine qpu_ 6 (some 15) #[Z,Z,Z,Z,Z,Z,Z,Y,Y,Y,Y,Y,Y,Y,Y,Y,Y,Y,Y,Y,Y,Y,Y,Y] ?_
  refine qpu_ 7 (some 16) #[Z,Z,Z,Z,Z,Z,Z,Z,Y,Y,Y,Y,Y,Y,Y,Y,Y,Y,Y,Y,Y,Y,Y,Y] ?_
  refine qpu_ 8 (some 17) #[Z,Z,Z,Z,Z,Z,Z,Z,Z,Y,Y,Y,Y,Y,Y,Y,Y,Y,Y,Y,Y,Y,Y,Y] ?_
  refine qpu_ 9 (some 18) #[Z,Z,Z,Z,Z,Z,Z,Z,Z,Z,Y,Y,Y,Y,Y,Y,Y,Y,Y,Y,Y,Y,Y,Y] ?_
  refine qpu_ 10 (some 19) #[Z,Z,Z,Z,Z,Z,Z,Z,Z,Z,Z,Y,Y,Y,Y,Y,Y,Y,Y,Y,Y,Y,Y,Y] ?_
  refine qpu_ 11 (some 20) #[Z,Z,Z,Z,Z,Z,Z,Z,Z,Z,Z,Z,Y,Y,Y,Y,Y,Y,Y,Y,Y,Y,Y,Y] ?_
  refine qpu_ 12 (some 21) #[Z,Z,Z,Z,Z,Z,Z,Z,Z,Z,Z,Z,Z,Y,Y,Y,Y,Y,Y,Y,Y,Y,Y,Y] ?_
  refine qpu_ 13 (some 22) #[Z,Z,Z,Z,Z,Z,Z,Z,Z,Z,Z,Z,Z,Z,Y,Y,Y,Y,Y,Y,Y,Y,Y,Y] ?_
  refine qpu_ 14 (some 23) #[Z,Z,Z,Z,Z,Z,Z,Z,Z,Z,Z,Z,Z,Z,Z,Y,Y,Y,Y,Y,Y,Y,Y,Y] ?_
  refine qpu_ 16 (some 25) #[Z,Z,Z,Z,Z,Z,Z,Z,Z,Z,Z,Z,Z,Z,Z,Y,Z,Y,Y,Y,Y,Y,Y,Y] ?_
  refine qpu_ 17 (some 26) #[Z,Z,Z,Z,Z,Z,Z,Z,Z,Z,Z,Z,Z,Z,Z,Y,Z,Z,Y,Y,Y,Y,Y,Y] ?_
  refine qpu_ 18 (some 27) #[Z,Z,Z,Z,Z,Z,Z,Z,Z,Z,Z,Z,Z,Z,Z,Y,Z,Z,Z,Y,Y,Y,Y,Y] ?_
  refine qpu_ 19 (some 28) #[Z,Z,Z,Z,Z,Z,Z,Z,Z,Z,Z,Z,Z,Z,Z,Y,Z,Z,Z,Z,Y,Y,Y,Y] ?_
  refine a6d 15 (some 24) #[Z,Z,Z,Z,Z,Z,Z,Z,Z,Z,Z,Z,Z,Z,Z,Z,Z,Z,Z,Z,Y,Y,Y,Y] hHeld ?_
  refine a6d 20 (some 29) #[Z,Z,Z,Z,Z,Z,Z,Z,Z,Z,Z,Z,Z,Z,Z,Z,Z,Z,Z,Z,Z,Y,Y,Y] hHeld ?_
  refine qpu_ 21 (some 30) #[Z,Z,Z,Z,Z,Z,Z,Z,Z,Z,Z,Z,Z,Z,Z,Z,Z,Z,Z,Z,Z,Z,Y,Y] ?_
  refine qpu_ 22 (some 31) #[Z,Z,Z,Z,Z,Z,Z,Z,Z,Z,Z,Z,Z,Z,Z,Z,Z,Z,Z,Z,Z,Z,Z,Y] ?_
  refine qpu_ 23 (some 32) #[Z,Z,Z,Z,Z,Z,Z,Z,Z,Z,Z,Z,Z,Z,Z,Z,Z,Z,Z,Z,Z,Z,Z,Z] ?_
  refine a5a (a4h HT_.out (by kernel_rfl)) ?_
  try go_wp2
  try subst z
  go_meet
  case rel => exact ⟨_,(decide (((a0h l0 ((wrap64 (a - 1)))).f1) ≥ ((a0h l0 a).f0))),(by first | rfl | (simp;done) | (simp only [← z] <;> (first | rfl | simp)) | (simp [*];done)),H',⟨by have := L.out;first | omega | exact Nat.le_refl _⟩,⟨qb_⟩⟩
 case rest =>
 clear O
 try clear c7
 try clear T
 try clear b
 try clear c
 try clear o
 try clear p
 try clear q
 try clear s
 try clear l
 try clear D
 try clear G
 try clear m
 try clear E
 try clear I
 obtain ⟨kq,A,rfl,HA,a3,HB⟩ := hcut
 cases kq with
 | zero => exact absurd HA.out (by simp [a2e.j1])
 | succ a9 =>
 have H := HA.out
 clear HA
 simp only [a2e.j1] at H
 by_cases M : A = true
 ·subst M
  replace H := qip_ H
  obtain rfl := si_ H
  go_wp2
  go_ret
  exact ⟨qx_,qb_⟩
 replace M := be_ M
 subst M
 replace H := qin_ H
 have H' := am_ H
 clear H
 go_wp2
 go_roundg a9
 case measure => have := L.out;have := a3.out;omega
 case rel => exact ⟨(wrap64 (a + 1)),qs_,H',⟨by have := L.out;have := a3.out;omega⟩,⟨qb_⟩⟩
end Go.Proofs.Ytheibjkjmkanoaa.Px
/- Contracts of Go functions, written by a program of this session's own (wip/tools/myprint.py) out of the translation: each Go function does what the Lean function of its name says. Conditions: as each theorem states. -/
namespace Go.Proofs.Ytheibjkjmkanoaa.Px
open Go.Proofs.Ytheibjkjmkanoaa.Given
open Go.RowKit Go.Proofs.YtheibjkjmkanoaaW.PrintWords Go.Proofs.YtheibjkjmkanoaaW.PrintLast Go.Proofs.YtheibjkjmkanoaaW.PrintMore
attribute [local go_sem] a3r a3s a4e a4f a3k a3l a3t a3u
set_option linter.unusedVariables false
set_option linter.unusedSimpArgs false
mutual
def a1n.l0 : Nat → List Int → Int → Int → List Int → Int → Int → Option (Bool)
 | 0,_,_,_,_,_,_ => none
 | k + 1,x0,x1,x2,x9,b,a => if a < b then (if 0 ≤ a then (if a < (x9.length : Int) then (if (rd x9 a) < x1 then (a1n.j1 k x0 x1 x2 x9 b a true) else (if (rd x9 a) > x2 then (a1n.j1 k x0 x1 x2 x9 b a true) else (if a > 0 then (if 0 ≤ (wrap64 (a - 1)) then (if (wrap64 (a - 1)) < (x0.length : Int) then (a1n.j1 k x0 x1 x2 x9 b a (decide ((rd x9 a) ≤ (rd x0 (wrap64 (a - 1)))))) else (none)) else (none)) else (a1n.j1 k x0 x1 x2 x9 b a false)))) else (none)) else (none)) else (some true)
def a1n.j1 : Nat → List Int → Int → Int → List Int → Int → Int → Bool → Option (Bool)
 | 0,_,_,_,_,_,_,_ => none
 | k + 1,x0,x1,x2,x9,a,b,c => if c = true then (some false) else (a1n.l0 k x0 x1 x2 x9 a (wrap64 (b + 1)))
end
def a1n.f (k : Nat) (l0 : List Int) (a1 a2 : Int) : Option (Bool) := a1n.l0 k l0 a1 a2 l0 (l0.length : Int) 0
theorem a1n.a1t : ∀ k,(∀ y0 y1 y2 y3 y4 y5,LeO (a1n.l0 k y0 y1 y2 y3 y4 y5) (a1n.l0 (k + 1) y0 y1 y2 y3 y4 y5)) ∧ (∀ y0 y1 y2 y3 y4 y5 y6,LeO (a1n.j1 k y0 y1 y2 y3 y4 y5 y6) (a1n.j1 (k + 1) y0 y1 y2 y3 y4 y5 y6))
 | 0 => ⟨fun _ _ _ _ _ _ r h => by simp [a1n.l0] at h,fun _ _ _ _ _ _ _ r h => by simp [a1n.j1] at h⟩
 | k + 1 => by
  obtain ⟨a,b⟩ := a1n.a1t k
  refine ⟨?_,?_⟩ <;> intros <;> (first | unfold a1n.l0 | unfold a1n.j1) <;> with_reducible (repeat' first | apply a | apply b | apply LeO.refl | apply LeO.none | apply LeO.ite | refine LeO.bind ?_ (fun _ => ?_))
theorem a1n.mono : ∀ a0 a1 a2 k,LeO (a1n.f k a0 a1 a2) (a1n.f (k + 1) a0 a1 a2) := by
 intro a0 a1 a2 k
 obtain ⟨a,b⟩ := a1n.a1t k
 unfold a1n.f
 with_reducible (repeat' first | apply a | apply b | apply LeO.refl | apply LeO.none | apply LeO.ite | refine LeO.bind ?_ (fun _ => ?_))
set_option maxHeartbeats 8000000 in
set_option maxRecDepth 100000 in
theorem a1n.calls (k : Nat) (A0 : Option Addr) (c0 : Nat) (l0 : List Int) (a1 a2 : Int) (r : Bool) (w : World) (B : Kd.C (Kd.int .i64) w A0 l0.length l0) (D : l0.length ≤ c0) (h : a1n.f k l0 a1 a2 = some r) :
  Calls Try.prog 46 #[.slice A0 l0.length c0, .int .i64 a1, .int .i64 a2] w fun e w' => e = .returned (.bool r) ∧ a3v w w' := by
 have E := am_ B
 have T := am_ D
 clear B D
 have H : (a1n.l0 k l0 a1 a2 l0 (l0.length : Int) 0) = some r := h
 clear h
 have H' := am_ H
 clear H
 go_enter Try.func46,Try.ntmps46
 go_wp2
 go_loopg [11] k (fun kq M w' => ∃ (a : Int),M = .int .i64 a ∧ Aside0 (a1n.l0 kq l0 a1 a2 l0 (l0.length : Int) a = some r) ∧ Aside0 (kq ≤ k) ∧ a3v w w')
 case atStart => exact ⟨(0),qs_,H',⟨Nat.le_refl _⟩,qy_⟩
 case round =>
 clear H'
 obtain ⟨a,rfl,HA,i,⟨m1,rfl⟩⟩ := hrel
 cases gk with
 | zero => exact absurd HA.out (by simp [a1n.l0])
 | succ k1 =>
 have H := HA.out
 clear HA
 simp only [a1n.l0] at H
 by_cases c4 : a < (l0.length : Int)
 rotate_left
 ·rw [if_neg c4] at H
  have t : decide (a < (l0.length : Int)) = false := decide_eq_false c4
  clear c4
  obtain rfl := si_ H
  go_wp2
  go_ret
  exact ⟨qs_,qy_⟩
 rw [if_pos c4] at H
 have t : decide (a < (l0.length : Int)) = true := decide_eq_true c4
 clear c4
 obtain ⟨I,H⟩ := qid_ H
 obtain ⟨J,H⟩ := qid_ H
 have u := am_ H
 clear H
 have j : 0 ≤ (a : Int) := ot_
 have l : a < (l0.length : Int) := ot_
 obtain ⟨x,K,q⟩ := Kd.a4q E.out a j l
 cases K
 replace j := eq_true j
 replace l := eq_true l
 go_upto_region 4 with (fail)
 go_cut [36] (fun O wc => ∃ (kq : Nat) (g : Bool),O = .bool g ∧ Aside0 (a1n.j1 kq l0 a1 a2 l0 (l0.length : Int) a g = some r) ∧ Aside0 (kq ≤ k1) ∧ a3v w wc)
 case first =>
  have H := u.out
  clear u
  by_cases c8 : (rd l0 a) < a1
  ·rw [if_pos c8] at H
   have d : decide ((rd l0 a) < a1) = true := decide_eq_true c8
   clear c8
   (first | rw [d] | (simp only [a4m,a4v];rw [d]) | skip)
   have H' := am_ H
   clear H
   go_wp2
   go_meet
   case rel => exact ⟨_,(true),qs_,H',⟨by have := i.out;first | omega | exact Nat.le_refl _⟩,qy_⟩
  rw [if_neg c8] at H
  have d : decide ((rd l0 a) < a1) = false := decide_eq_false c8
  clear c8
  (first | rw [d] | (simp only [a4m,a4v];rw [d]) | skip)
  by_cases c9 : (rd l0 a) > a2
  ·rw [if_pos c9] at H
   have v : decide (a2 < (rd l0 a)) = true := decide_eq_true c9
   clear c9
   have H' := am_ H
   clear H
   go_wp2
   go_meet
   case rel => exact ⟨_,(true),qs_,H',⟨by have := i.out;first | omega | exact Nat.le_refl _⟩,qy_⟩
  rw [if_neg c9] at H
  have v : decide (a2 < (rd l0 a)) = false := decide_eq_false c9
  clear c9
  by_cases c10 : a > 0
  rotate_left
  ·rw [if_neg c10] at H
   have o : decide (0 < a) = false := decide_eq_false c10
   clear c10
   have H' := am_ H
   clear H
   go_wp2
   go_meet
   case rel => exact ⟨_,(false),qs_,H',⟨by have := i.out;first | omega | exact Nat.le_refl _⟩,qy_⟩
  rw [if_pos c10] at H
  have o : decide (0 < a) = true := decide_eq_true c10
  clear c10
  obtain ⟨b,c⟩ : ∃ j_ : Int,(wrap64 (a - 1)) = j_ := ⟨_,rfl⟩
  replace H : (if 0 ≤ (b) then (if (b) < (l0.length : Int) then (a1n.j1 k1 l0 a1 a2 l0 (l0.length : Int) a (decide ((rd l0 a) ≤ (rd l0 (b))))) else (none)) else (none)) = some r := by first | (rw [c] at H;exact H) | (simp only [c] at H ⊢;exact H)
  have hji11w : (IntKind.i64.wrap (a - 1)) = b := (a4m _).trans c
  obtain ⟨y,H⟩ := qid_ H
  obtain ⟨z,H⟩ := qid_ H
  have H' := am_ H
  clear H
  have m : 0 ≤ ((b) : Int) := ot_
  have n : (b) < (l0.length : Int) := ot_
  obtain ⟨A,L,s⟩ := Kd.a4q E.out (b) m n
  obtain rfl : x = A := (by injection L)
  replace m := eq_true m
  replace n := eq_true n
  go_wp2
  try subst c
  go_meet
  case rel => exact ⟨_,(decide ((rd l0 a) ≤ (rd l0 ((wrap64 (a - 1)))))),(by first | rfl | (simp;done) | (simp only [← c] <;> (first | rfl | simp)) | (simp [*];done)),H',⟨by have := i.out;first | omega | exact Nat.le_refl _⟩,qy_⟩
 case rest =>
 clear u
 try clear t
 try clear I
 try clear J
 try clear d
 try clear v
 try clear o
 try clear y
 try clear z
 try clear q
 try clear s
 try clear j
 try clear m
 try clear l
 try clear n
 obtain ⟨kq,g,rfl,HA,G,⟨U,rfl⟩⟩ := hcut
 cases kq with
 | zero => exact absurd HA.out (by simp [a1n.j1])
 | succ P =>
 have H := HA.out
 clear HA
 simp only [a1n.j1] at H
 by_cases p : g = true
 ·subst p
  replace H := qip_ H
  obtain rfl := si_ H
  go_wp2
  go_ret
  exact ⟨qs_,qy_⟩
 replace p := be_ p
 subst p
 replace H := qin_ H
 have H' := am_ H
 clear H
 go_wp2
 go_roundg P
 case measure => have := i.out;have := G.out;omega
 case rel => exact ⟨(wrap64 (a + 1)),qs_,H',⟨by have := i.out;have := G.out;omega⟩,qy_⟩
def a5n.f (a0 : Int) (b : List (S51)) (a : List (Int × Int)) (c : List (Int × List (S56))) : Option (Bool) := some (!(mhas a a0))
set_option maxHeartbeats 8000000 in
set_option maxRecDepth 100000 in
theorem a5n.calls (a0 : Int) (v : Nat) (A : Option Addr) (B : Nat) (j : List (S51)) (l : List (Int × Int)) (D : List (Int × List (S56))) (g i : Nat) (gh_a1_2 : List (Int × (List (S56) × Value))) (r : Bool) (w : World) (x : Kd.C k51 w A j.length j) (y : j.length ≤ B) (G : w.heap[v]? = some (.cells #[.slice A j.length B, .map (some g), .map (some i)] 62 (0,0))) (m : w.heap[g]? = some (a1y (Value.int .i64) l)) (n : w.heap[i]? = some (a1y (fun e_ : List (S56) × Value => e_.2) gh_a1_2)) (o : a5s gh_a1_2 = D) (p : a5g k56 w gh_a1_2) (a : g ≠ i) (b : g ≠ v) (c : i ≠ v) (h : a5n.f a0 j l D = some r) :
  Calls Try.prog 54 #[.int .i64 a0, .pointer (some ⟨v,0,none⟩)] w fun e w' => e = .returned (.bool r) ∧ a3v w w' := by
 have K := am_ x
 have L := am_ y
 clear x y
 have E := am_ m
 clear m
 have O := am_ n
 clear n
 have P := am_ o
 have T := am_ p
 clear o p
 have I := am_ a
 have J := am_ a.symm
 clear a
 have q := am_ b
 have s := am_ b.symm
 clear b
 have t := am_ c
 have u := am_ c.symm
 clear c
 have z := am_ G
 clear G
 have H : (some (!(mhas l a0))) = some r := h
 clear h
 obtain rfl := si_ H
 have a4 := s.out
 have a5 := q.out
 have a6 := u.out
 have a7 := t.out
 obtain ⟨U,W,X⟩ := qz3_ z;obtain ⟨a1,a2,a3⟩ := qf3_ z
 go_enter Try.func54,Try.ntmps54
 go_wp2_with (first | ((with_reducible refine a1d (N := 10) rfl ?_);refine a9j (enc := Value.int .i64) (d := 0) rfl (N := 10) rfl rfl (M := l) (k := a0) Try.underlying59 Try.underlying3 (a7o _) (qk_ E) rfl ?hx ?_;(case hx => first | rfl | (go_simp;done) | (go_simp;rfl))))
 go_ret
 exact ⟨qs_,qy_⟩
def a1a.l0 : Nat → List Int → Int → Int → List (Int × Int) → List (Int × List (S56)) → List (S51) → Option (Int)
 | 0,_,_,_,_,_,_ => none
 | k + 1,x0,x7,x8,u0,u1,u2 => if x8 < x7 then (if 0 ≤ x8 then (if x8 < (x0.length : Int) then ((a5n.f (rd x0 x8) u2 u0 u1).bind fun a => (if a = true then (some x8) else (a1a.l0 k x0 x7 (wrap64 (x8 + 1)) u0 u1 u2))) else (none)) else (none)) else (some (-1))
def a1a.f (k : Nat) (l0 : List Int)  (a : List (S51)) (b : List (Int × Int)) (c : List (Int × List (S56))) : Option (Int) := a1a.l0 k l0 (l0.length : Int) 0 b c a
theorem a1a.a1t : ∀ k,(∀ y0 y1 y2 y3 y4 y5,LeO (a1a.l0 k y0 y1 y2 y3 y4 y5) (a1a.l0 (k + 1) y0 y1 y2 y3 y4 y5))
 | 0 => fun _ _ _ _ _ _ r h => by simp [a1a.l0] at h
 | k + 1 => by
  have a := a1a.a1t k
  intro y0 y1 y2 y3 y4 y5
  unfold a1a.l0
  with_reducible (repeat' first | apply a | apply LeO.refl | apply LeO.none | apply LeO.ite | refine LeO.bind ?_ (fun _ => ?_))
theorem a1a.mono : ∀ a0 a1 a2 a3 k,LeO (a1a.f k a0 a1 a2 a3) (a1a.f (k + 1) a0 a1 a2 a3) := by
 intro a0 a1 a2 a3 k
 have a := a1a.a1t k
 unfold a1a.f
 with_reducible (repeat' first | apply a | apply LeO.refl | apply LeO.none | apply LeO.ite | refine LeO.bind ?_ (fun _ => ?_))
set_option maxHeartbeats 8000000 in
set_option maxRecDepth 100000 in
theorem a1a.calls (k : Nat) (A0 : Option Addr) (c0 : Nat) (l0 : List Int)  (x : Nat) (y : Option Addr) (z : Nat) (d : List (S51)) (i : List (Int × Int)) (s : List (Int × List (S56))) (b c : Nat) (gh_a2_2 : List (Int × (List (S56) × Value))) (r : Int) (w : World) (a0 : Kd.C (Kd.int .i64) w A0 l0.length l0) (a1 : l0.length ≤ c0) (L : Kd.C k51 w y d.length d) (M : d.length ≤ z) (a2 : w.heap[x]? = some (.cells #[.slice y d.length z, .map (some b), .map (some c)] 62 (0,0))) (A : w.heap[b]? = some (a1y (Value.int .i64) i)) (B : w.heap[c]? = some (a1y (fun e_ : List (S56) × Value => e_.2) gh_a2_2)) (D : a5s gh_a2_2 = s) (E : a5g k56 w gh_a2_2) (g : b ≠ c) (j : b ≠ x) (l : c ≠ x) (h : a1a.f k l0 d i s = some r) :
  Calls Try.prog 60 #[.slice A0 l0.length c0, .func (.func 54) #[] #[.pointer (some ⟨x,0,none⟩)]] w fun e w' => e = .returned (.int .i64 r) ∧ a3v w w' := by
 have a3 := am_ a0
 have ad := am_ a1
 clear a0 a1
 have O := am_ L
 have P := am_ M
 clear L M
 have o := am_ A
 clear A
 have p := am_ B
 clear B
 have T := am_ D
 have U := am_ E
 clear D E
 have t := am_ g
 have a4 := am_ g.symm
 clear g
 have u := am_ j
 have a5 := am_ j.symm
 clear j
 have v := am_ l
 have a6 := am_ l.symm
 clear l
 have q := am_ a2
 clear a2
 have H : (a1a.l0 k l0 (l0.length : Int) 0 i s d) = some r := h
 clear h
 have H' := am_ H
 clear H
 go_enter Try.func60,Try.ntmps60
 go_wp2
 go_loopg [8] k (fun kq v8 w' => ∃ (a : Int),v8 = .int .i64 a ∧ Aside0 (a1a.l0 kq l0 (l0.length : Int) a i s d = some r) ∧ Aside0 (kq ≤ k) ∧ Aside0 (w'.heap[b]? = some (a1y (Value.int .i64) i)) ∧ Aside0 (w'.heap[c]? = some (a1y (fun e_ : List (S56) × Value => e_.2) gh_a2_2)) ∧ Aside0 (w'.heap[x]? = some (.cells #[(.slice y d.length z), .map (some b), .map (some c)] 62 (0,0))) ∧ a3v w w')
 case atStart => exact ⟨(0),qs_,H',⟨Nat.le_refl _⟩,⟨qk_ o⟩,⟨qk_ p⟩,⟨qk_ q⟩,qy_⟩
 case round =>
 clear H'
 obtain ⟨a,rfl,HA,a7,o,p,q,⟨m1,rfl⟩⟩ := hrel
 cases gk with
 | zero => exact absurd HA.out (by simp [a1a.l0])
 | succ k1 =>
 have H := HA.out
 clear HA
 simp only [a1a.l0] at H
 by_cases c4 : a < (l0.length : Int)
 rotate_left
 ·rw [if_neg c4] at H
  have a9 : decide (a < (l0.length : Int)) = false := decide_eq_false c4
  clear c4
  obtain rfl := si_ H
  go_wp2
  go_ret
  exact ⟨qs_,qy_⟩
 rw [if_pos c4] at H
 have a9 : decide (a < (l0.length : Int)) = true := decide_eq_true c4
 clear c4
 obtain ⟨ab,H⟩ := qid_ H
 obtain ⟨ac,H⟩ := qid_ H
 replace H := bm_ H
 obtain ⟨aa,a8,H⟩ := H
 have A7 := am_ a8
 clear a8
 by_cases c8 : aa = true
 ·subst c8
  replace H := qip_ H
  obtain rfl := si_ H
  have m : 0 ≤ (a : Int) := ot_
  have n : a < (l0.length : Int) := ot_
  obtain ⟨X,G,W⟩ := Kd.a4q a3.out a m n
  cases G
  replace m := eq_true m
  replace n := eq_true n
  go_wp2_with (first | (go_at_call 54;(with_reducible refine (a5n.calls (rd l0 a) x y z d i s b c gh_a2_2 true _ ?s1 P.out ?s3 ?s4 ?s5 ?s6 ?s7 ?s8 ?s9 ?s10 A7.out).mono ?_);(case s1 => repeat (first | exact O.out | (with_reducible refine Kd.a1b ?_ _) | (with_reducible refine Kd.a1c ?_ _) | (with_reducible refine Kd.a1k ?_)));(case s3 => exact (qk_ q));(case s4 => exact (qk_ o));(case s5 => exact (qk_ p));(case s6 => exact T.out);(case s7 => exact (fun e_ he_ => by obtain ⟨A_,c_,I,J,K⟩ := U.out e_ he_;have HRm_ := am_ K;exact ⟨A_,c_,I,J,by repeat (first | exact HRm_.out | (with_reducible refine Kd.a1b ?_ _) | (with_reducible refine Kd.a1c ?_ _) | (with_reducible refine Kd.a1k ?_))⟩));(case s8 => exact t.out);(case s9 => exact u.out);(case s10 => exact v.out);rintro e w' ⟨rfl,⟨nd,rfl⟩⟩))
  go_ret
  exact ⟨qs_,qy_⟩
 replace c8 := be_ c8
 subst c8
 replace H := qin_ H
 have H' := am_ H
 clear H
 have m : 0 ≤ (a : Int) := ot_
 have n : a < (l0.length : Int) := ot_
 obtain ⟨X,G,W⟩ := Kd.a4q a3.out a m n
 cases G
 replace m := eq_true m
 replace n := eq_true n
 go_wp2_with (first | (go_at_call 54;(with_reducible refine (a5n.calls (rd l0 a) x y z d i s b c gh_a2_2 false _ ?s1 P.out ?s3 ?s4 ?s5 ?s6 ?s7 ?s8 ?s9 ?s10 A7.out).mono ?_);(case s1 => repeat (first | exact O.out | (with_reducible refine Kd.a1b ?_ _) | (with_reducible refine Kd.a1c ?_ _) | (with_reducible refine Kd.a1k ?_)));(case s3 => exact (qk_ q));(case s4 => exact (qk_ o));(case s5 => exact (qk_ p));(case s6 => exact T.out);(case s7 => exact (fun e_ he_ => by obtain ⟨A_,c_,I,J,K⟩ := U.out e_ he_;have HRm_ := am_ K;exact ⟨A_,c_,I,J,by repeat (first | exact HRm_.out | (with_reducible refine Kd.a1b ?_ _) | (with_reducible refine Kd.a1c ?_ _) | (with_reducible refine Kd.a1k ?_))⟩));(case s8 => exact t.out);(case s9 => exact u.out);(case s10 => exact v.out);rintro e w' ⟨rfl,⟨nd,rfl⟩⟩))
 go_roundg k1
 case measure => have := a7.out;omega
 case rel => exact ⟨(wrap64 (a + 1)),qs_,H',⟨by have := a7.out;omega⟩,⟨qk_ o⟩,⟨qk_ p⟩,⟨qk_ q⟩,qy_⟩
def a2p.f (k : Nat) (l0 : List Int)  (a : List (S51)) (b : List (Int × Int)) (c : List (Int × List (S56))) : Option (Bool) := (a1a.f k l0 a b c).bind fun d => (some (decide (d ≥ 0)))
theorem a2p.mono : ∀ a0 a1 a2 a3 k,LeO (a2p.f k a0 a1 a2 a3) (a2p.f (k + 1) a0 a1 a2 a3) := by
 intro a0 a1 a2 a3 k
 unfold a2p.f
 with_reducible (repeat' first | apply a1a.mono | apply LeO.refl | apply LeO.none | apply LeO.ite | refine LeO.bind ?_ (fun _ => ?_))
set_option maxHeartbeats 8000000 in
set_option maxRecDepth 100000 in
theorem a2p.calls (k : Nat) (A0 : Option Addr) (c0 : Nat) (l0 : List Int)  (j : Nat) (v : Option Addr) (x : Nat) (d : List (S51)) (l : List (Int × Int)) (m : List (Int × List (S56))) (b c : Nat) (gh_a2_2 : List (Int × (List (S56) × Value))) (r : Bool) (w : World) (L : Kd.C (Kd.int .i64) w A0 l0.length l0) (M : l0.length ≤ c0) (z : Kd.C k51 w v d.length d) (A : d.length ≤ x) (O : w.heap[j]? = some (.cells #[.slice v d.length x, .map (some b), .map (some c)] 62 (0,0))) (n : w.heap[b]? = some (a1y (Value.int .i64) l)) (o : w.heap[c]? = some (a1y (fun e_ : List (S56) × Value => e_.2) gh_a2_2)) (p : a5s gh_a2_2 = m) (q : a5g k56 w gh_a2_2) (a : b ≠ c) (g : b ≠ j) (i : c ≠ j) (h : a2p.f k l0 d l m = some r) :
  Calls Try.prog 40 #[.slice A0 l0.length c0, .func (.func 54) #[] #[.pointer (some ⟨j,0,none⟩)]] w fun e w' => e = .returned (.bool r) ∧ a3v w w' := by
 have a2 := am_ L
 have a3 := am_ M
 clear L M
 have B := am_ z
 have D := am_ A
 clear z A
 have E := am_ n
 clear n
 have G := am_ o
 clear o
 have I := am_ p
 have J := am_ q
 clear p q
 have s := am_ a
 have P := am_ a.symm
 clear a
 have t := am_ g
 have T := am_ g.symm
 clear g
 have u := am_ i
 have U := am_ i.symm
 clear i
 have K := am_ O
 clear O
 have H : ((a1a.f k l0 d l m).bind fun y => (some (decide (y ≥ 0)))) = some r := h
 clear h
 replace H := bm_ H
 obtain ⟨y,W,H⟩ := H
 have A4 := am_ W
 clear W
 obtain rfl := si_ H
 go_enter Try.func40,Try.ntmps40
 go_wp2_with (first | ((with_reducible refine a0i (f := 60) rfl ?_);refine a1i (some 7) rfl rfl Try.func60 (by kernel_rfl) rfl #[.slice A0 l0.length c0, .func (.func 54) #[] #[.pointer (some ⟨j,0,none⟩)]] rfl ql_ ?_;(with_reducible refine (a1a.calls k _ _ l0  j v x d l m b c gh_a2_2 y _ ?s1 a3.out ?s3 D.out ?s5 ?s6 ?s7 ?s8 ?s9 ?s10 ?s11 ?s12 A4.out).mono ?_);(case s1 => repeat (first | exact a2.out | (with_reducible refine Kd.a1b ?_ _) | (with_reducible refine Kd.a1c ?_ _) | (with_reducible refine Kd.a1k ?_)));(case s3 => repeat (first | exact B.out | (with_reducible refine Kd.a1b ?_ _) | (with_reducible refine Kd.a1c ?_ _) | (with_reducible refine Kd.a1k ?_)));(case s5 => exact (qk_ K));(case s6 => exact (qk_ E));(case s7 => exact (qk_ G));(case s8 => exact I.out);(case s9 => exact (fun e_ he_ => by obtain ⟨A_,c_,X,a0,a1⟩ := J.out e_ he_;have HRm_ := am_ a1;exact ⟨A_,c_,X,a0,by repeat (first | exact HRm_.out | (with_reducible refine Kd.a1b ?_ _) | (with_reducible refine Kd.a1c ?_ _) | (with_reducible refine Kd.a1k ?_))⟩));(case s10 => exact s.out);(case s11 => exact t.out);(case s12 => exact u.out);rintro e w' ⟨rfl,⟨nd,rfl⟩⟩;refine ⟨_,rfl,?_⟩))
 go_ret
 exact ⟨qs_,qy_⟩
end Go.Proofs.Ytheibjkjmkanoaa.Px
