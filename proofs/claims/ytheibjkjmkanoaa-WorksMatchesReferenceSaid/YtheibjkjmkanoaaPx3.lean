/- What works.open fills: a map from the trades' numbers to the slices that the trades hold, told by the trades' places. Conditions: as each theorem states. -/
import Derived.Test.YtheibjkjmkanoaaWQPut
import Derived.Test.YtheibjkjmkanoaaPx0
namespace Go.Proofs.Ytheibjkjmkanoaa.Given
open Go.RowKit Go.MapKept Go.Proofs.YtheibjkjmkanoaaW.PrintWords Go.Proofs.YtheibjkjmkanoaaW.PrintLast Go.Proofs.Ytheibjkjmkanoaa.Px
set_option linter.unusedVariables false
set_option linter.unusedSimpArgs false
def trV (w : World) (A : Option Addr) (l : List S58) (i : Int) : Value :=
 if i.toNat < l.length then (match A with
  | some ad => (w.cell? ⟨(ad.add (i.toNat * 2)).block,(ad.add (i.toNat * 2)).off + 1,none⟩).getD (.slice none 0 0)
  | none => .slice none 0 0)
 else .slice none 0 0
def a4e (l : List S58) (M : List (Int × Int)) : List (Int × List S56) := M.map fun e => (e.1,(a1x l e.2).f1)
def ixgh (l : List S58) (V : Int → Value) (M : List (Int × Int)) : List (Int × (List S56 × Value)) := M.map fun e => (e.1,((a1x l e.2).f1,V e.2))
theorem b5t (l : List S58) (V : Int → Value) : ∀ (M : List (Int × Int)) (j : Nat),a5o (fun e_ : List S56 × Value => e_.2) (ixgh l V M) j = a5o V M j
 | [],_ => rfl
 | p :: t,j => by
  show ({ key := .int .i64 p.1,val := V p.2,born := j } : MapEntry) :: a5o _ (ixgh l V t) (j + 1) = { key := .int .i64 p.1,val := V p.2,born := j } :: a5o V t (j + 1)
  rw [b5t l V t (j + 1)]
theorem b5u (l : List S58) (V : Int → Value) (M : List (Int × Int)) : a1v (fun e_ : List S56 × Value => e_.2) (ixgh l V M) = a1v V M := by
 unfold a1v
 rw [b5t,show (ixgh l V M).length = M.length by simp [ixgh]]
theorem b3w (l : List S58) (V : Int → Value) (M : List (Int × Int)) : a5u (ixgh l V M) = a4e l M := by
 simp [a5u,ixgh,a4e,Function.comp_def]
theorem c3w (l : List S58) (k i : Int) : ∀ M : List (Int × Int),a4e l (mput M k i) = mput (a4e l M) k (a1x l i).f1
 | [] => rfl
 | p :: t => by
  show a4e l (if p.1 = k then (p.1,i) :: t else p :: mput t k i) = (if p.1 = k then (p.1,(a1x l i).f1) :: a4e l t else (p.1,(a1x l p.2).f1) :: mput (a4e l t) k (a1x l i).f1)
  rw [← c3w l k i t]
  split <;> rfl
theorem b7d (l : List S58) (k : Int) : ∀ M : List (Int × Int),a3i (a4e l M) k = (a3i M k).map fun i => (a1x l i).f1
 | [] => rfl
 | p :: t => by
  show (if p.1 = k then some (a1x l p.2).f1 else a3i (a4e l t) k) = ((if p.1 = k then some p.2 else a3i t k).map fun i => (a1x l i).f1)
  rw [b7d l k t]
  split <;> rfl
theorem c2p {w W : World} {ad : Addr} {l : List S58} (hC : Kd.C k58 w (some ad) l.length l) (hB : Below w.heap.size w W) {i : Int} (h0 : 0 ≤ i) (h1 : i < l.length) {v : Value}
  (hx : W.cell? ⟨(ad.add (i.toNat * 2)).block,(ad.add (i.toNat * 2)).off + 1,none⟩ = some v) : trV w (some ad) l i = v := by
 obtain ⟨b,A1,c1,e,c,a,_,_⟩ := a6v hC i h0 h1
 obtain rfl : ad = b := si_ e
 have h2 := (hB.cell (World.block_lt_of_cell? _ _ a)).trans a
 have h3 := si_ (hx.symm.trans h2)
 unfold trV
 rw [if_pos (by omega)]
 show (w.cell? _).getD _ = v
 rw [a,h3]
 rfl
theorem c2q {w : World} {A : Option Addr} {l : List S58} (hC : Kd.C k58 w A l.length l) (i : Int) : ∃ A2 c,trV w A l i = .slice A2 (a1x l i).f1.length c ∧ (a1x l i).f1.length ≤ c ∧ Kd.C k56 w A2 (a1x l i).f1.length (a1x l i).f1 := by
 by_cases h : i.toNat < l.length
 rotate_left
 ·have e : a1x l i = z58 := by
   unfold a1x
   rw [List.getD_eq_getElem?_getD,List.getElem?_eq_none (by omega)]
   rfl
  rw [e]
  refine ⟨none,0,?_,Nat.le_refl _,⟨rfl,by simp [z58],fun h => by simp [z58] at h⟩⟩
  unfold trV
  rw [if_neg h]
  rfl
 obtain ⟨ad,A1,c1,rfl,b,a,h1,h2⟩ := a6v hC (i.toNat : Int) (by omega) (by omega)
 have e : a1x l (i.toNat : Int) = a1x l i := by unfold a1x;rw [Int.toNat_natCast]
 rw [e] at a h1 h2
 refine ⟨A1,c1,?_,h1,h2⟩
 unfold trV
 rw [if_pos h]
 show (w.cell? _).getD _ = _
 rw [Int.toNat_natCast] at a
 rw [a]
 rfl
theorem b3x {w : World} {A : Option Addr} {l : List S58} {V : Int → Value} (hV : ∀ i,V i = trV w A l i) (hC : Kd.C k58 w A l.length l) (M : List (Int × Int)) : a5a k56 w (ixgh l V M) := fun e he => by
 obtain ⟨p,_,rfl⟩ := List.mem_map.1 he
 obtain ⟨A2,c,h1,h2,h3⟩ := c2q hC p.2
 exact ⟨A2,c,(hV _).trans h1,h2,h3⟩
theorem b9p {w W : World} {A : Option Addr} {l : List S58} (hC : Kd.C k58 w A l.length l) (hB : Below w.heap.size w W) (i : Int) : trV W A l i = trV w A l i := by
 unfold trV
 split
 ·rename_i h
  obtain ⟨ad,A1,c1,rfl,b,a,h1,h2⟩ := a6v hC (i.toNat : Int) (by omega) (by omega)
  rw [Int.toNat_natCast] at a
  have h2 := (hB.cell (World.block_lt_of_cell? _ _ a)).trans a
  show (W.cell? _).getD _ = (w.cell? _).getD _
  rw [a,h2]
 rfl
def c0w (V : Int → Value) (v : Value) (b : Bool) (M1 M2 : List (Int × Int)) (w : World) (e : Ending) (w' : World) : Prop :=
 ∃ (Aq : Option Addr) (nq cq : Nat) (m1 m2 : Option Nat),e = .returned (.tuple #[.agg #[.slice Aq nq cq, .map m1, .map m2], .bool b]) ∧
  (b = true → .slice Aq nq cq = v ∧ ∃ g1 g2 : Nat,m1 = some g1 ∧ m2 = some g2 ∧ w.heap.size ≤ g1 ∧ w.heap.size ≤ g2 ∧ g1 ≠ g2 ∧ w'.heap[g1]? = some (a1v (Value.int .i64) M1) ∧ w'.heap[g2]? = some (a1v V M2)) ∧ Below w.heap.size w w'
section
variable {P : Program} {ops : Array Oper} {rest : List Oper} {o : Oper} {a : Act} {Q : Exit → Act → World → Prop}
theorem a9i {α : Type} {enc : α → Value} {W : World} (hgd : o.guard = none) {N : Tmp} (hd : o.dst = some N) {T K E : TypeId} {m x : Operand} (ho : o.op = .lookup T m x true) {g : Nat} {M : List (Int × α)} {k : Int} {z : Value}
  (hT : P.underlying T = some (.map K E)) (hK : P.underlying K = some (.int .i64)) (hz : (zeroValue E).run P W = .ok z W) (hb : W.heap[g]? = some (a1v enc M)) (hm : a.eval m = .map (some g)) (hx : a.eval x = .int .i64 k)
  (h : ∀ v,wpList P ops Q rest (a.put o.dst (.tuple #[v, .bool (mhas M k)])) W) : wpList P ops Q (o :: rest) a W := by
 refine a8h hgd hd ho hT hK hz hb hm hx ?_
 rw [if_pos rfl]
 exact h _
end
end Go.Proofs.Ytheibjkjmkanoaa.Given
/- Contracts of Go functions, written by a program of this session's own (wip/tools/myprint.py) out of the translation: each Go function does what the Lean function of its name says. Conditions: as each theorem states. -/
namespace Go.Proofs.Ytheibjkjmkanoaa.Px
open Go.Proofs.Ytheibjkjmkanoaa.Given
open Go.RowKit Go.Proofs.YtheibjkjmkanoaaW.PrintWords Go.Proofs.YtheibjkjmkanoaaW.PrintLast Go.Proofs.YtheibjkjmkanoaaW.PrintMore
attribute [local go_sem] a3r a3s a4b a4c a3f a3g a3t a3u
set_option linter.unusedVariables false
set_option linter.unusedSimpArgs false
def a5e.f (a b : Int) : Option (Int) := some a
def cmp_isNaN_int.f (a0 : Int) : Option (Bool) := some (a0 != a0)
set_option maxHeartbeats 8000000 in
set_option maxRecDepth 100000 in
theorem cmp_isNaN_int.calls (a0 : Int) (r : Bool) (w : World) (h : cmp_isNaN_int.f a0 = some r) :
  Calls Try.prog 91 #[.int .i64 a0] w fun e w' => e = .returned (.bool r) ∧ a3j w w' := by
 have H : (some (a0 != a0)) = some r := h
 clear h
 obtain rfl := si_ H
 go_enter Try.func91,Try.ntmps91
 go_wp2
 go_ret
 exact ⟨qs_,qy_⟩
def cmp_Compare_int.f (a0 a1 : Int) : Option (Int) := (cmp_isNaN_int.f a0).bind fun b => ((cmp_isNaN_int.f a1).bind fun a => (if b = true then (if a = true then (some 0) else (some (-1))) else (if a = true then (some 1) else (if a0 < a1 then (some (-1)) else (if a0 > a1 then (some 1) else (some 0))))))
set_option maxHeartbeats 8000000 in
set_option maxRecDepth 100000 in
theorem cmp_Compare_int.calls (a0 a1 r : Int) (w : World) (h : cmp_Compare_int.f a0 a1 = some r) :
  Calls Try.prog 79 #[.int .i64 a0, .int .i64 a1] w fun e w' => e = .returned (.int .i64 r) ∧ a3j w w' := by
 have H : ((cmp_isNaN_int.f a0).bind fun b => ((cmp_isNaN_int.f a1).bind fun a => (if b = true then (if a = true then (some 0) else (some (-1))) else (if a = true then (some 1) else (if a0 < a1 then (some (-1)) else (if a0 > a1 then (some 1) else (some 0))))))) = some r := h
 clear h
 replace H := bm_ H
 obtain ⟨b,c,H⟩ := H
 have A3 := am_ c
 clear c
 replace H := bm_ H
 obtain ⟨a,d,H⟩ := H
 have A4 := am_ d
 clear d
 by_cases c5 : b = true
 ·subst c5
  replace H := qip_ H
  by_cases c6 : a = true
  ·subst c6
   replace H := qip_ H
   obtain rfl := si_ H
   go_enter Try.func79,Try.ntmps79
   go_wp2_with (first | ((with_reducible refine a0k (f := 91) rfl ?_);refine a1n (some 8) rfl rfl Try.func91 (by kernel_rfl) rfl #[.int .i64 a0] rfl ql_ ?_;(with_reducible refine (cmp_isNaN_int.calls a0 true _ A3.out).mono ?_);rintro e w' ⟨rfl,⟨nd,rfl⟩⟩;refine ⟨_,rfl,?_⟩) | ((with_reducible refine a0k (f := 91) rfl ?_);refine a1n (some 10) rfl rfl Try.func91 (by kernel_rfl) rfl #[.int .i64 a1] rfl ql_ ?_;(with_reducible refine (cmp_isNaN_int.calls a1 true _ A4.out).mono ?_);rintro e w' ⟨rfl,⟨nd,rfl⟩⟩;refine ⟨_,rfl,?_⟩))
   go_ret
   exact ⟨qs_,qy_⟩
  replace c6 := be_ c6
  subst c6
  replace H := qin_ H
  obtain rfl := si_ H
  go_enter Try.func79,Try.ntmps79
  go_wp2_with (first | ((with_reducible refine a0k (f := 91) rfl ?_);refine a1n (some 8) rfl rfl Try.func91 (by kernel_rfl) rfl #[.int .i64 a0] rfl ql_ ?_;(with_reducible refine (cmp_isNaN_int.calls a0 true _ A3.out).mono ?_);rintro e w' ⟨rfl,⟨nd,rfl⟩⟩;refine ⟨_,rfl,?_⟩) | ((with_reducible refine a0k (f := 91) rfl ?_);refine a1n (some 10) rfl rfl Try.func91 (by kernel_rfl) rfl #[.int .i64 a1] rfl ql_ ?_;(with_reducible refine (cmp_isNaN_int.calls a1 false _ A4.out).mono ?_);rintro e w' ⟨rfl,⟨nd,rfl⟩⟩;refine ⟨_,rfl,?_⟩))
  go_ret
  exact ⟨qs_,qy_⟩
 replace c5 := be_ c5
 subst c5
 replace H := qin_ H
 by_cases c7 : a = true
 ·subst c7
  replace H := qip_ H
  obtain rfl := si_ H
  go_enter Try.func79,Try.ntmps79
  go_wp2_with (first | ((with_reducible refine a0k (f := 91) rfl ?_);refine a1n (some 8) rfl rfl Try.func91 (by kernel_rfl) rfl #[.int .i64 a0] rfl ql_ ?_;(with_reducible refine (cmp_isNaN_int.calls a0 false _ A3.out).mono ?_);rintro e w' ⟨rfl,⟨nd,rfl⟩⟩;refine ⟨_,rfl,?_⟩) | ((with_reducible refine a0k (f := 91) rfl ?_);refine a1n (some 10) rfl rfl Try.func91 (by kernel_rfl) rfl #[.int .i64 a1] rfl ql_ ?_;(with_reducible refine (cmp_isNaN_int.calls a1 true _ A4.out).mono ?_);rintro e w' ⟨rfl,⟨nd,rfl⟩⟩;refine ⟨_,rfl,?_⟩))
  go_ret
  exact ⟨qs_,qy_⟩
 replace c7 := be_ c7
 subst c7
 replace H := qin_ H
 by_cases c8 : a0 < a1
 ·rw [if_pos c8] at H
  have g : decide (a0 < a1) = true := decide_eq_true c8
  clear c8
  obtain rfl := si_ H
  go_enter Try.func79,Try.ntmps79
  go_wp2_with (first | ((with_reducible refine a0k (f := 91) rfl ?_);refine a1n (some 8) rfl rfl Try.func91 (by kernel_rfl) rfl #[.int .i64 a0] rfl ql_ ?_;(with_reducible refine (cmp_isNaN_int.calls a0 false _ A3.out).mono ?_);rintro e w' ⟨rfl,⟨nd,rfl⟩⟩;refine ⟨_,rfl,?_⟩) | ((with_reducible refine a0k (f := 91) rfl ?_);refine a1n (some 10) rfl rfl Try.func91 (by kernel_rfl) rfl #[.int .i64 a1] rfl ql_ ?_;(with_reducible refine (cmp_isNaN_int.calls a1 false _ A4.out).mono ?_);rintro e w' ⟨rfl,⟨nd,rfl⟩⟩;refine ⟨_,rfl,?_⟩))
  go_ret
  exact ⟨qs_,qy_⟩
 rw [if_neg c8] at H
 have g : decide (a0 < a1) = false := decide_eq_false c8
 clear c8
 by_cases c9 : a0 > a1
 rotate_left
 ·rw [if_neg c9] at H
  have i : decide (a1 < a0) = false := decide_eq_false c9
  clear c9
  obtain rfl := si_ H
  go_enter Try.func79,Try.ntmps79
  go_wp2_with (first | ((with_reducible refine a0k (f := 91) rfl ?_);refine a1n (some 8) rfl rfl Try.func91 (by kernel_rfl) rfl #[.int .i64 a0] rfl ql_ ?_;(with_reducible refine (cmp_isNaN_int.calls a0 false _ A3.out).mono ?_);rintro e w' ⟨rfl,⟨nd,rfl⟩⟩;refine ⟨_,rfl,?_⟩) | ((with_reducible refine a0k (f := 91) rfl ?_);refine a1n (some 10) rfl rfl Try.func91 (by kernel_rfl) rfl #[.int .i64 a1] rfl ql_ ?_;(with_reducible refine (cmp_isNaN_int.calls a1 false _ A4.out).mono ?_);rintro e w' ⟨rfl,⟨nd,rfl⟩⟩;refine ⟨_,rfl,?_⟩))
  go_ret
  exact ⟨qs_,qy_⟩
 rw [if_pos c9] at H
 have i : decide (a1 < a0) = true := decide_eq_true c9
 clear c9
 obtain rfl := si_ H
 go_enter Try.func79,Try.ntmps79
 go_wp2_with (first | ((with_reducible refine a0k (f := 91) rfl ?_);refine a1n (some 8) rfl rfl Try.func91 (by kernel_rfl) rfl #[.int .i64 a0] rfl ql_ ?_;(with_reducible refine (cmp_isNaN_int.calls a0 false _ A3.out).mono ?_);rintro e w' ⟨rfl,⟨nd,rfl⟩⟩;refine ⟨_,rfl,?_⟩) | ((with_reducible refine a0k (f := 91) rfl ?_);refine a1n (some 10) rfl rfl Try.func91 (by kernel_rfl) rfl #[.int .i64 a1] rfl ql_ ?_;(with_reducible refine (cmp_isNaN_int.calls a1 false _ A4.out).mono ?_);rintro e w' ⟨rfl,⟨nd,rfl⟩⟩;refine ⟨_,rfl,?_⟩))
 go_ret
 exact ⟨qs_,qy_⟩
def a3v.f (a b c d : Int)  : Option (Int) := (a5e.f a b).bind fun e => ((a5e.f c d).bind fun g => ((cmp_Compare_int.f e g).bind fun h => (some h)))
def a3v.T1 : Bool × List (List Nat × List Nat) := (true,[([],[]),([],[]),([0,1],[0,1]),([],[]),([],[]),([3,4,2],[3,4]),([2,5,5],[2,5]),([6,6,0,1,2,3,4,5,6],[6])])
def a3v.B1 : List Nat := [0,0,3,0,0,31,63,127]
theorem a3v.tab1 : rtab .any (opsOf Try.f78 1) = a3v.T1 := by kernel_rfl
theorem a3v.a8x : a5m a3v.T1.2 a3v.B1 = true := by kernel_rfl
def a1j.f  : Option ((List (S51))) := some (([(⟨1,1,3,([] : List Int),(([2] : List Int))⟩ : S51),(⟨2,1,4,(([1] : List Int)),([] : List Int)⟩ : S51)] : List (S51)))
set_option maxHeartbeats 8000000 in
set_option maxRecDepth 100000 in
theorem a1j.calls  (r : List (S51)) (w : World) (h : a1j.f  = some r) :
  Calls Try.prog 28 #[] w fun e w' => ∃ t : Value,e = .returned (t) ∧ Kd.N k51 51 w' w.heap.size (fun k_ => (w.heap.size ≤ k_)) t r ∧ Below w.heap.size w w' := by
 have D := Try.underlying51
 have HB := am_ (Below.refl w.heap.size w)
 have H : (some (([(⟨1,1,3,([] : List Int),(([2] : List Int))⟩ : S51),(⟨2,1,4,(([1] : List Int)),([] : List Int)⟩ : S51)] : List (S51)))) = some r := h
 clear h
 obtain ⟨b,g⟩ : ∃ y_ : List Int,y_ = (([2] : List Int)) := ⟨_,rfl⟩
 replace H : (some (([(⟨1,1,3,([] : List Int),b⟩ : S51),(⟨2,1,4,(([1] : List Int)),([] : List Int)⟩ : S51)] : List (S51)))) = some r := by first | (rw [g];with_reducible exact H) | (have c := (Option.bind_some _ _).symm.trans H;rw [g];with_reducible exact c) | (have c := (Option.bind_some _ _).symm.trans H;with_reducible exact c) | with_reducible exact H | (rw [g];exact H) | exact H
 have o := am_ g
 clear g
 obtain ⟨d,i⟩ : ∃ y_ : List Int,y_ = (([1] : List Int)) := ⟨_,rfl⟩
 replace H : (some (([(⟨1,1,3,([] : List Int),b⟩ : S51),(⟨2,1,4,d,([] : List Int)⟩ : S51)] : List (S51)))) = some r := by first | (rw [i];with_reducible exact H) | (have c := (Option.bind_some _ _).symm.trans H;rw [i];with_reducible exact c) | (have c := (Option.bind_some _ _).symm.trans H;with_reducible exact c) | with_reducible exact H | (rw [i];exact H) | exact H
 have p := am_ i
 clear i
 obtain ⟨z,j⟩ : ∃ y_ : List (S51),y_ = (([(⟨1,1,3,([] : List Int),b⟩ : S51),(⟨2,1,4,d,([] : List Int)⟩ : S51)] : List (S51))) := ⟨_,rfl⟩
 replace H : (some z) = some r := by first | (rw [j];with_reducible exact H) | (have c := (Option.bind_some _ _).symm.trans H;rw [j];with_reducible exact c) | (have c := (Option.bind_some _ _).symm.trans H;with_reducible exact c) | with_reducible exact H | (rw [j];exact H) | exact H
 have q := am_ j
 clear j
 obtain rfl := si_ H
 go_enter Try.func28,Try.ntmps28
 go_wp2_with (first | ((with_reducible refine a0s (N := 1) rfl ?_);refine Kd.a6d (Kd.int .i64) _ 3 ?hg (N := 1) ?hd (xs := ([2] : List Int)) (inner := [.int .i64 2]) (ok := fun _ => True) (okp := fun _ => True) ?hr ?hp (fun _ hk => hk) trivial (Below.refl _ _) (Nat.le_refl _) (by simp) ?_;(case hd => rfl);(case hg => rfl);(case hr => exact qq_);(case hp => exact (Reps.one (show Kd.M (Kd.int .i64) _ _ _ 2 [.int .i64 2] from rfl) (Reps.none _ _)));intro E w1 m hb hg_ hnew_;clear hg_ hnew_;(first | rw [← o.out] at m | (simp only [Int.reduceToNat] at m;rw [← o.out] at m));have a := am_ (Kd.a3d (Kd.b5r (M := fun k_ => (w.heap.size ≤ k_)) m (a0w qb_) (fun k_ h_ => h_)) (a0w qb_));replace HB := qbs_ hb;clear hb m;obtain ⟨u,v,A⟩ := Kd.a2v a.out;subst A) | ((with_reducible refine a0s (N := 3) rfl ?_);refine Kd.a6d (Kd.int .i64) _ 3 ?hg (N := 3) ?hd (xs := ([1] : List Int)) (inner := [.int .i64 1]) (ok := fun _ => True) (okp := fun _ => True) ?hr ?hp (fun _ hk => hk) trivial (Below.refl _ _) (Nat.le_refl _) (by simp) ?_;(case hd => rfl);(case hg => rfl);(case hr => exact qq_);(case hp => exact (Reps.one (show Kd.M (Kd.int .i64) _ _ _ 1 [.int .i64 1] from rfl) (Reps.none _ _)));intro G w4 l hb hg_ hnew_;clear hg_ hnew_;(first | rw [← p.out] at l | (simp only [Int.reduceToNat] at l;rw [← p.out] at l));have k := am_ (Kd.a3d (Kd.a3z (Kd.b5r (M := fun k_ => (w.heap.size ≤ k_)) l (a0w qb_) (fun k_ h_ => h_)) (Kd.R_lt (qr_ a))) (a0w qb_));replace a := qel_ a l hb;replace HB := qbs_ hb;clear hb l;obtain ⟨x,y,B⟩ := Kd.a2v k.out;subst B) | ((with_reducible refine a0s (N := 5) rfl ?_);refine Kd.c1o k51 _ 51 ?hg (N' := 5) ?hd (xs := ([(⟨1,1,3,([] : List Int),b⟩ : S51),(⟨2,1,4,d,([] : List Int)⟩ : S51)] : List (S51))) (inner := [.int .i64 1, .int .i64 1, .int .i64 3, .slice none 0 0, .slice u b.length v, .int .i64 2, .int .i64 1, .int .i64 4, .slice x d.length y, .slice none 0 0]) (ok := (fun k_ => (w.heap.size ≤ k_))) (okp := (fun k_ => (w.heap.size ≤ k_))) ?hr ?hp (fun _ hk => hk) ((show ∀ k_,w4.heap.size ≤ k_ → (fun k_ => (w.heap.size ≤ k_)) k_ from fun k_ hk => (Nat.le_trans (a0w qb_) hk)) _ (Nat.le_refl _)) (Below.refl _ _) (Nat.le_refl _) (by simp) ?_;(case hd => rfl);(case hg => rfl);(case hr => exact qq_);(case hp => exact (Reps.c5 (show Kd.FK k51 _ _ (⟨1,1,3,([] : List Int),b⟩ : S51) [.int .i64 1, .int .i64 1, .int .i64 3, .slice none 0 0, .slice u b.length v] from (b7c _ _ (⟨1,1,3,([] : List Int),b⟩ : S51) (Nat.le_refl _) (Kd.b8d _ _ _) (Kd.a1b (Kd.a2h (ok' := (fun k_ => (w.heap.size ≤ k_))) (a.out) (fun k_ hk => hk.1.1))).2.1 (Kd.R_F (Kd.a2h (ok' := (fun k_ => (w.heap.size ≤ k_))) (a.out) (fun k_ hk => hk.1.1))))) (Reps.c5 (show Kd.FK k51 _ _ (⟨2,1,4,d,([] : List Int)⟩ : S51) [.int .i64 2, .int .i64 1, .int .i64 4, .slice x d.length y, .slice none 0 0] from (b7c _ _ (⟨2,1,4,d,([] : List Int)⟩ : S51) (Kd.a1b (Kd.a2h (ok' := (fun k_ => (w.heap.size ≤ k_))) (k.out) (fun k_ hk => hk.1.1))).2.1 (Kd.R_F (Kd.a2h (ok' := (fun k_ => (w.heap.size ≤ k_))) (k.out) (fun k_ hk => hk.1.1))) (Nat.le_refl _) (Kd.b8d _ _ _))) (Reps.none _ _))));intro I w7 n hb hg_ hnew_;clear hg_ hnew_;(first | rw [← q.out] at n | (simp only [Int.reduceToNat] at n;rw [← q.out] at n));have s := am_ (Kd.a6g n (a0w qb_));replace HB := qbs_ hb;clear a k hb n))
 go_ret
 exact ⟨_,qx_,by (with_reducible repeat (first | apply Kd.N_alloc | apply Kd.N_drewN | apply Kd.N_drew));exact s.out,qb_⟩
def a1k.f  : Option ((List (S58))) := some (([(⟨1,(([(⟨0,5⟩ : S56),(⟨8,20⟩ : S56)] : List (S56)))⟩ : S58)] : List (S58)))
set_option maxHeartbeats 8000000 in
set_option maxRecDepth 100000 in
theorem a1k.calls  (r : List (S58)) (w : World) (h : a1k.f  = some r) :
  Calls Try.prog 29 #[] w fun e w' => ∃ n : Value,e = .returned (n) ∧ Kd.N k58 58 w' w.heap.size (fun k_ => (w.heap.size ≤ k_)) n r ∧ Below w.heap.size w w' := by
 have t := Try.underlying56
 have u := Try.underlying58
 have HB := am_ (Below.refl w.heap.size w)
 have H : (some (([(⟨1,(([(⟨0,5⟩ : S56),(⟨8,20⟩ : S56)] : List (S56)))⟩ : S58)] : List (S58)))) = some r := h
 clear h
 obtain ⟨a,b⟩ : ∃ y_ : List (S56),y_ = (([(⟨0,5⟩ : S56),(⟨8,20⟩ : S56)] : List (S56))) := ⟨_,rfl⟩
 replace H : (some (([(⟨1,a⟩ : S58)] : List (S58)))) = some r := by first | (rw [b];with_reducible exact H) | (have g := (Option.bind_some _ _).symm.trans H;rw [b];with_reducible exact g) | (have g := (Option.bind_some _ _).symm.trans H;with_reducible exact g) | with_reducible exact H | (rw [b];exact H) | exact H
 have k := am_ b
 clear b
 obtain ⟨q,c⟩ : ∃ y_ : List (S58),y_ = (([(⟨1,a⟩ : S58)] : List (S58))) := ⟨_,rfl⟩
 replace H : (some q) = some r := by first | (rw [c];with_reducible exact H) | (have g := (Option.bind_some _ _).symm.trans H;rw [c];with_reducible exact g) | (have g := (Option.bind_some _ _).symm.trans H;with_reducible exact g) | with_reducible exact H | (rw [c];exact H) | exact H
 have l := am_ c
 clear c
 obtain rfl := si_ H
 go_enter Try.func29,Try.ntmps29
 go_wp2_with (first | ((with_reducible refine a0s (N := 3) rfl ?_);refine Kd.a6d k56 _ 56 ?hg (N := 3) ?hd (xs := ([(⟨0,5⟩ : S56),(⟨8,20⟩ : S56)] : List (S56))) (inner := [.int .i64 0, .int .i64 5, .int .i64 8, .int .i64 20]) (ok := fun _ => True) (okp := fun _ => True) ?hr ?hp (fun _ hk => hk) trivial (Below.refl _ _) (Nat.le_refl _) (by simp) ?_;(case hd => rfl);(case hg => rfl);(case hr => exact qq_);(case hp => exact (Reps.c2 (show Kd.M k56 _ _ _ (⟨0,5⟩ : S56) [.int .i64 0, .int .i64 5] from (a5y _ _ _ (⟨0,5⟩ : S56) )) (Reps.c2 (show Kd.M k56 _ _ _ (⟨8,20⟩ : S56) [.int .i64 8, .int .i64 20] from (a5y _ _ _ (⟨8,20⟩ : S56) )) (Reps.none _ _))));intro v w1 i hb hg_ hnew_;clear hg_ hnew_;(first | rw [← k.out] at i | (simp only [Int.reduceToNat] at i;rw [← k.out] at i));have d := am_ (Kd.a3d (Kd.b5r (M := fun k_ => (w.heap.size ≤ k_)) i (a0w qb_) (fun k_ h_ => h_)) (a0w qb_));replace HB := qbs_ hb;clear hb i;obtain ⟨o,p,s⟩ := Kd.a2v d.out;subst s) | ((with_reducible refine a0s (N := 5) rfl ?_);refine Kd.c1o k58 _ 58 ?hg (N' := 5) ?hd (xs := ([(⟨1,a⟩ : S58)] : List (S58))) (inner := [.int .i64 1, .slice o a.length p]) (ok := (fun k_ => (w.heap.size ≤ k_))) (okp := (fun k_ => (w.heap.size ≤ k_))) ?hr ?hp (fun _ hk => hk) ((show ∀ k_,w1.heap.size ≤ k_ → (fun k_ => (w.heap.size ≤ k_)) k_ from fun k_ hk => (Nat.le_trans (a0w qb_) hk)) _ (Nat.le_refl _)) (Below.refl _ _) (Nat.le_refl _) (by simp) ?_;(case hd => rfl);(case hg => rfl);(case hr => exact qq_);(case hp => exact (Reps.c2 (show Kd.FK k58 _ _ (⟨1,a⟩ : S58) [.int .i64 1, .slice o a.length p] from (c2k _ _ (⟨1,a⟩ : S58) (Kd.a1b (Kd.a2h (ok' := (fun k_ => (w.heap.size ≤ k_))) (d.out) (fun k_ hk => hk.1))).2.1 (Kd.R_F (Kd.a2h (ok' := (fun k_ => (w.heap.size ≤ k_))) (d.out) (fun k_ hk => hk.1))))) (Reps.none _ _)));intro x w4 j hb hg_ hnew_;clear hg_ hnew_;(first | rw [← l.out] at j | (simp only [Int.reduceToNat] at j;rw [← l.out] at j));have m := am_ (Kd.a6g j (a0w qb_));replace HB := qbs_ hb;clear d hb j))
 go_ret
 exact ⟨_,qx_,by (with_reducible repeat (first | apply Kd.N_alloc | apply Kd.N_drewN | apply Kd.N_drew));exact m.out,qb_⟩
def a5b.f (a b : Int) : Option (Bool) := if 0 ≤ a then (if a < b then (some (decide (b ≤ 36525))) else (some false)) else (some false)
set_option maxHeartbeats 8000000 in
set_option maxRecDepth 100000 in
theorem a5b.calls (a c : Int) (r : Bool) (w : World) (h : a5b.f a c = some r) :
  Calls Try.prog 66 #[.agg #[.int .i64 a, .int .i64 c]] w fun e w' => e = .returned (.bool r) ∧ Below w.heap.size w w' := by
 have z := Try.underlying56
 have HB := am_ (Below.refl w.heap.size w)
 have H : (if 0 ≤ a then (if a < c then (some (decide (c ≤ 36525))) else (some false)) else (some false)) = some r := h
 clear h
 by_cases c2 : 0 ≤ a
 rotate_left
 ·rw [if_neg c2] at H
  have j : decide (0 ≤ a) = false := decide_eq_false c2
  clear c2
  obtain rfl := si_ H
  go_enter Try.func66,Try.ntmps66
  go_wp2_with (first | ((with_reducible refine a0s (N := 1) rfl ?_);refine qev_ 1 #[.int .i64 a, .int .i64 c] 56 ?_;intro d hg w8 hbox hb;have b := am_ (hbox);have g := qga_ hg;have i := qga_ hg;replace HB := qbs_ hb;clear hb hbox hg;obtain ⟨l,m⟩ := qz2_ b;obtain ⟨n,o⟩ := qf2_ b))
  go_ret
  exact ⟨qx_,qb_⟩
 rw [if_pos c2] at H
 have j : decide (0 ≤ a) = true := decide_eq_true c2
 clear c2
 by_cases c3 : a < c
 rotate_left
 ·rw [if_neg c3] at H
  have k : decide (a < c) = false := decide_eq_false c3
  clear c3
  obtain rfl := si_ H
  go_enter Try.func66,Try.ntmps66
  go_wp2_with (first | ((with_reducible refine a0s (N := 1) rfl ?_);refine qev_ 1 #[.int .i64 a, .int .i64 c] 56 ?_;intro d hg w6 hbox hb;have b := am_ (hbox);have g := qga_ hg;have i := qga_ hg;replace HB := qbs_ hb;clear hb hbox hg;obtain ⟨p,q⟩ := qz2_ b;obtain ⟨s,t⟩ := qf2_ b))
  go_ret
  exact ⟨qx_,qb_⟩
 rw [if_pos c3] at H
 have k : decide (a < c) = true := decide_eq_true c3
 clear c3
 obtain rfl := si_ H
 go_enter Try.func66,Try.ntmps66
 go_wp2_with (first | ((with_reducible refine a0s (N := 1) rfl ?_);refine qev_ 1 #[.int .i64 a, .int .i64 c] 56 ?_;intro d hg w4 hbox hb;have b := am_ (hbox);have g := qga_ hg;have i := qga_ hg;replace HB := qbs_ hb;clear hb hbox hg;obtain ⟨u,v⟩ := qz2_ b;obtain ⟨x,y⟩ := qf2_ b))
 go_ret
 exact ⟨qx_,qb_⟩
end Go.Proofs.Ytheibjkjmkanoaa.Px
