/- Contracts of Go functions, printed. Conditions: as each theorem states. -/
import Derived.Test.YtheibjkjmkanoaaPx0
import Derived.Test.YtheibjkjmkanoaaPx3
import Derived.Test.YtheibjkjmkanoaaPx4
import Derived.Test.YtheibjkjmkanoaaPx7
import Derived.Test.YtheibjkjmkanoaaPx12
import Derived.Test.YtheibjkjmkanoaaPx18
import Derived.Test.YtheibjkjmkanoaaGRowK
import Derived.Test.YtheibjkjmkanoaaGOpen
import Derived.Test.YtheibjkjmkanoaaGBy
namespace Go.Proofs.Ytheibjkjmkanoaa.Px
open Go.Proofs.Ytheibjkjmkanoaa.Given
open Go.RowKit Go.Proofs.YtheibjkjmkanoaaW.PrintWords Go.Proofs.YtheibjkjmkanoaaW.PrintLast Go.Proofs.YtheibjkjmkanoaaW.PrintMore
attribute [local go_sem] a3m a3n a3x a3y a3e a3f a3o a3p
set_option linter.unusedVariables false
set_option linter.unusedSimpArgs false
mutual
def a2q.l0 : Nat → List (S56) → List (S56) → Int → Int → Option ((List (S56)) × Int)
 | 0,_,_,_,_ => none
 | k + 1,x0,b,d,a => if a < d then (if 0 ≤ a then (if a < (b.length : Int) then ((a5b.f ((a0h b a).f0) ((a0h b a).f1)).bind fun e => (if e = true then (a2q.l0 k x0 b d (wrap64 (a + 1))) else (some (([] : List (S56)),1)))) else (none)) else (none)) else ((a7g.f x0).bind fun c => ((a3w.f k c).bind fun g => (a2q.l1 k ([] : List (S56)) g (c.length : Int) 0)))
def a2q.l1 : Nat → List (S56) → List (S56) → Int → Int → Option ((List (S56)) × Int)
 | 0,_,_,_,_ => none
 | k + 1,x7,b,d,a => if a < d then (if 0 ≤ a then (if a < (b.length : Int) then ((a2v.f x7 ((a0h b a).f0) ((a0h b a).f1)).bind fun e => (a2q.l1 k e b d (wrap64 (a + 1)))) else (none)) else (none)) else ((a7d.f x7).bind fun c => (some (c.1,c.2)))
end
def a2q.f (k : Nat) (l0 : List (S56)) : Option ((List (S56)) × Int) := a2q.l0 k l0 l0 (l0.length : Int) 0
theorem a2q.a1h : ∀ k,(∀ y0 y1 y2 y3,LeO (a2q.l0 k y0 y1 y2 y3) (a2q.l0 (k + 1) y0 y1 y2 y3)) ∧ (∀ y0 y1 y2 y3,LeO (a2q.l1 k y0 y1 y2 y3) (a2q.l1 (k + 1) y0 y1 y2 y3))
 | 0 => ⟨fun _ _ _ _ r h => by simp [a2q.l0] at h,fun _ _ _ _ r h => by simp [a2q.l1] at h⟩
 | k + 1 => by
  obtain ⟨a,b⟩ := a2q.a1h k
  refine ⟨?_,?_⟩ <;> intros <;> (first | unfold a2q.l0 | unfold a2q.l1) <;> with_reducible (repeat' first | apply a | apply b | apply a3w.mono | apply LeO.refl | apply LeO.none | apply LeO.ite | refine LeO.bind ?_ (fun _ => ?_))
theorem a2q.mono : ∀ a0 k,LeO (a2q.f k a0) (a2q.f (k + 1) a0) := by
 intro a0 k
 obtain ⟨a,b⟩ := a2q.a1h k
 unfold a2q.f
 with_reducible (repeat' first | apply a | apply b | apply a3w.mono | apply LeO.refl | apply LeO.none | apply LeO.ite | refine LeO.bind ?_ (fun _ => ?_))
theorem c0r {x y : S56} (h0 : x.f0 = y.f0) (h1 : x.f1 = y.f1) : x = y := by cases x;cases y;simp_all
def le2 (x y : S56) : Prop := x.f0 < y.f0 ∨ x.f0 = y.f0 ∧ x.f1 ≤ y.f1
def ins2 (x : S56) : List S56 → List S56
 | [] => [x]
 | y :: t => if x.f0 < y.f0 ∨ x.f0 = y.f0 ∧ x.f1 ≤ y.f1 then x :: y :: t else y :: ins2 x t
def a8w : List S56 → List S56
 | [] => []
 | x :: t => ins2 x (a8w t)
theorem b0k (x : S56) : ∀ l : List S56,(ins2 x l).Perm (x :: l)
 | [] => List.Perm.refl _
 | y :: t => by
  rw [ins2]
  split
  ·exact List.Perm.refl _
  exact ((b0k x t).cons y).trans (List.Perm.swap x y t)
theorem a7o : ∀ l : List S56,(a8w l).Perm l
 | [] => List.Perm.refl _
 | x :: t => (b0k x (a8w t)).trans ((a7o t).cons x)
theorem b8c {x y z : S56} (h : le2 x y) (k : le2 y z) : le2 x z := by unfold le2 at *;omega
theorem b5q {x : S56} : ∀ {l : List S56},l.Pairwise le2 → (ins2 x l).Pairwise le2
 | [],_ => List.pairwise_singleton _ _
 | y :: t,h => by
  have h' := List.pairwise_cons.1 h
  rw [ins2]
  split
  ·rename_i c
   refine List.pairwise_cons.2 ⟨fun z hz => ?_,h⟩
   rcases List.mem_cons.1 hz with e | e
   ·rw [e];exact c
   exact b8c c (h'.1 z e)
  rename_i c
  refine List.pairwise_cons.2 ⟨fun z hz => ?_,b5q h'.2⟩
  rcases List.mem_cons.1 ((b0k x t).subset hz) with e | e
  ·rw [e];unfold le2;omega
  exact h'.1 z e
theorem b1m : ∀ l : List S56,(a8w l).Pairwise le2
 | [] => List.Pairwise.nil
 | x :: t => b5q (b1m t)
theorem b6v {a b : List S56} (h : a.Perm b) : a8w a = a8w b :=
 List.Perm.eq_of_pairwise (le := le2) (fun x y _ _ h1 h2 => c0r (by unfold le2 at h1 h2;omega) (by unfold le2 at h1 h2;omega)) (b1m a) (b1m b) ((a7o a).trans (h.trans (a7o b).symm))
def addS (o : Option (List S56)) (s : S56) : Option (List S56) := o.bind fun l => a2v.f l s.f0 s.f1
theorem b9a {l : List S56} {i : Int} (h0 : 0 ≤ i) (h1 : i < l.length) (v : S56) : a0h (l.set i.toNat v) i = v := by
 unfold a0h
 rw [List.getD_eq_getElem?_getD,List.getElem?_set_self (by omega)]
 rfl
theorem b4o (l : List S56) (v : S56) : a0h (l ++ [v]) (l.length : Int) = v := by
 unfold a0h
 rw [List.getD_eq_getElem?_getD,show ((l.length : Int)).toNat = l.length by omega,List.getElem?_append_right (Nat.le_refl _)]
 simp
theorem c0s (l : List S56) (v u : S56) : (l ++ [v]).set (l.length : Int).toNat u = l ++ [u] := by
 rw [show ((l.length : Int)).toNat = l.length by omega,List.set_append_right _ _ (Nat.le_refl _)]
 simp
theorem b3a {l : List S56} {a : Int} (b : Int) (h : (l.length : Int) > 0) (h0 : 0 ≤ wrap64 ((l.length : Int) - 1)) (h1 : wrap64 ((l.length : Int) - 1) < (l.length : Int)) (h2 : (a0h l (wrap64 ((l.length : Int) - 1))).f1 ≥ a) :
  a2v.f l a b = some (l.set (wrap64 ((l.length : Int) - 1)).toNat ⟨(a0h l (wrap64 ((l.length : Int) - 1))).f0,mx (a0h l (wrap64 ((l.length : Int) - 1))).f1 b⟩) := by
 unfold a2v.f
 rw [if_pos h,if_pos h0,if_pos h1,if_pos h2]
theorem b9b (l : List S56) (a b b' : Int) (hb : a < b) (hl : l.length < 8796093022208) : a2v.f (l ++ [⟨a,b⟩]) a b' = some (l ++ [⟨a,mx b b'⟩]) := by
 have e : wrap64 (((l ++ [(⟨a,b⟩ : S56)]).length : Int) - 1) = (l.length : Int) := by
  rw [List.length_append,List.length_singleton]
  unfold wrap64
  omega
 have hlen : ((l ++ [(⟨a,b⟩ : S56)]).length : Int) = l.length + 1 := by simp
 rw [b3a b' (by omega) (by rw [e];omega) (by rw [e];omega) (by rw [e,b4o];show b ≥ a;omega),e,b4o,c0s]
theorem b5r (a b : Int) : mx a b = mx b a := by unfold mx;(repeat' split) <;> omega
theorem c0t (c a b : Int) : mx (mx c a) b = mx (mx c b) a := by unfold mx;(repeat' split) <;> omega
theorem c2n (a b : Int) : mx a b ≥ a := by unfold mx;(repeat' split) <;> omega
theorem c0u (l : List S56) (a b b' : Int) (hb : a < b) (hb' : a < b') : (a2v.f l a b).bind (fun l2 => a2v.f l2 a b') = (a2v.f l a b').bind (fun l2 => a2v.f l2 a b) := by
 have app : ∀ (u v : Int),a < u → a < v → l.length < 8796093022208 → (some (l ++ [(⟨a,u⟩ : S56)])).bind (fun l2 => a2v.f l2 a v) = some (l ++ [⟨a,mx u v⟩]) := fun u v hu hv hl => by
  rw [Option.bind_some,b9b l a u v hu hl]
 by_cases h : (l.length : Int) > 0
 rotate_left
 ·have one : ∀ u,a2v.f l a u = if l.length < 8796093022208 then some (l ++ [(⟨a,u⟩ : S56)]) else none := fun u => by
   unfold a2v.f
   rw [if_neg h]
  rw [one,one]
  by_cases hl : l.length < 8796093022208
  rotate_left
  ·rw [if_neg hl,if_neg hl];rfl
  rw [if_pos hl,if_pos hl,app b b' hb hb' hl,app b' b hb' hb hl,b5r]
 by_cases h0 : 0 ≤ wrap64 ((l.length : Int) - 1)
 ·by_cases h1 : wrap64 ((l.length : Int) - 1) < (l.length : Int)
  ·by_cases h2 : (a0h l (wrap64 ((l.length : Int) - 1))).f1 ≥ a
   ·obtain ⟨i,hi⟩ : ∃ i,i = wrap64 ((l.length : Int) - 1) := ⟨_,rfl⟩
    have put : ∀ (u v : Int),(a2v.f l a u).bind (fun l2 => a2v.f l2 a v) = some (l.set i.toNat ⟨(a0h l i).f0,mx (mx (a0h l i).f1 u) v⟩) := fun u v => by
     rw [b3a u h h0 h1 h2,Option.bind_some, ← hi]
     have e : wrap64 (((l.set i.toNat (⟨(a0h l i).f0,mx (a0h l i).f1 u⟩ : S56)).length : Int) - 1) = i := by rw [List.length_set, ← hi]
     have hr := b9a (l := l) (i := i) (by rw [hi];exact h0) (by rw [hi];exact h1) (⟨(a0h l i).f0,mx (a0h l i).f1 u⟩ : S56)
     rw [b3a v (by rw [List.length_set];exact h) (by rw [e,hi];exact h0) (by rw [e,List.length_set,hi];exact h1) (by rw [e,hr];show mx (a0h l i).f1 u ≥ a;have := c2n (a0h l i).f1 u;rw [← hi] at h2;omega),e,hr,List.set_set]
    rw [put b b',put b' b,c0t]
   have one : ∀ u,a2v.f l a u = if l.length < 8796093022208 then some (l ++ [(⟨a,u⟩ : S56)]) else none := fun u => by
    unfold a2v.f
    rw [if_pos h,if_pos h0,if_pos h1,if_neg h2]
   rw [one,one]
   by_cases hl : l.length < 8796093022208
   rotate_left
   ·rw [if_neg hl,if_neg hl];rfl
   rw [if_pos hl,if_pos hl,app b b' hb hb' hl,app b' b hb' hb hl,b5r]
  have no : ∀ u,a2v.f l a u = none := fun u => by
   unfold a2v.f
   rw [if_pos h,if_pos h0,if_neg h1]
  rw [no,no];rfl
 have no : ∀ u,a2v.f l a u = none := fun u => by
  unfold a2v.f
  rw [if_pos h,if_neg h0]
 rw [no,no];rfl
theorem b9c {x y : S56} (e : x.f0 = y.f0) (hx : x.f0 < x.f1) (hy : y.f0 < y.f1) (o : Option (List S56)) : addS (addS o x) y = addS (addS o y) x := by
 cases o with
 | none => rfl
 | some l =>
  show (a2v.f l x.f0 x.f1).bind (fun l2 => a2v.f l2 y.f0 y.f1) = (a2v.f l y.f0 y.f1).bind (fun l2 => a2v.f l2 x.f0 x.f1)
  rw [← e]
  rw [← e] at hy
  exact c0u l x.f0 x.f1 y.f1 hx hy
theorem b4p {x : S56} : ∀ {t : List S56},(∀ y ∈ t,x.f0 ≤ y.f0) → (∀ s ∈ x :: t,s.f0 < s.f1) → ∀ o,(ins2 x t).foldl addS o = (x :: t).foldl addS o
 | [],_,_,_ => rfl
 | y :: t,h,hv,o => by
  rw [ins2]
  split
  ·rfl
  rename_i c
  have hy := h y List.mem_cons_self
  show (ins2 x t).foldl addS (addS o y) = t.foldl addS (addS (addS o x) y)
  rw [b4p (fun z hz => h z (List.mem_cons_of_mem _ hz)) (fun s hs => hv s (by
   rcases List.mem_cons.1 hs with q | q
   ·rw [q];exact List.mem_cons_self
   exact List.mem_cons_of_mem _ (List.mem_cons_of_mem _ q))) (addS o y)]
  show t.foldl addS (addS (addS o y) x) = _
  rw [b9c (by omega) (hv x List.mem_cons_self) (hv y (List.mem_cons_of_mem _ List.mem_cons_self)) o]
theorem a9o : ∀ {l : List S56},l.Pairwise (fun a b => a.f0 ≤ b.f0) → (∀ s ∈ l,s.f0 < s.f1) → ∀ o,l.foldl addS o = (a8w l).foldl addS o
 | [],_,_,_ => rfl
 | x :: t,h,hv,o => by
  have h' := List.pairwise_cons.1 h
  show t.foldl addS (addS o x) = (ins2 x (a8w t)).foldl addS o
  rw [a9o h'.2 (fun s hs => hv s (List.mem_cons_of_mem _ hs)),b4p (fun y hy => h'.1 y ((a7o t).subset hy)) (fun s hs => hv s (by
    rcases List.mem_cons.1 hs with q | q
    ·rw [q];exact List.mem_cons_self
    exact List.mem_cons_of_mem _ ((a7o t).subset q)))]
  rfl
theorem b3o : ∀ t : List S56,t.foldl addS none = none
 | [] => rfl
 | x :: t => b3o t
theorem c1u (l : List S56) {i : Int} (h0 : 0 ≤ i) (h1 : i < l.length) : l.drop i.toNat = a0h l i :: l.drop (i + 1).toNat := by
 have h : i.toNat < l.length := by omega
 rw [show (i + 1).toNat = i.toNat + 1 by omega,List.drop_eq_getElem_cons h]
 unfold a0h
 rw [List.getD_eq_getElem?_getD,List.getElem?_eq_getElem h]
 rfl
theorem b5s (d : List S56) (n : Int) (hn : n = d.length) (hb : d.length < 4611686018427387904) : ∀ (k : Nat) (out : List S56) (i : Int),0 ≤ i → i ≤ n →
  a2q.l1 k out d n i = if (k : Int) ≤ n - i then none else (((d.drop i.toNat).foldl addS (some out)).bind fun t => (a7d.f t).bind fun bt => some (bt.1,bt.2)) := by
 intro k
 induction k with
 | zero =>
  intro out i i0 hi
  rw [a2q.l1,if_pos (by omega)]
 | succ k ih =>
  intro out i i0 hi
  rw [a2q.l1]
  by_cases c : i < n
  rotate_left
  ·rw [if_neg c,if_neg (by omega),show i.toNat = d.length by omega,List.drop_length]
   rfl
  rw [if_pos c,if_pos i0,if_pos (by omega),c1u d i0 (by omega)]
  show _ = if ((k + 1 : Nat) : Int) ≤ n - i then none else (((d.drop (i + 1).toNat).foldl addS (addS (some out) (a0h d i))).bind _)
  have ea : addS (some out) (a0h d i) = a2v.f out (a0h d i).f0 (a0h d i).f1 := rfl
  rw [ea]
  cases e : a2v.f out (a0h d i).f0 (a0h d i).f1 with
  | none => rw [b3o];split <;> rfl
  | some t =>
   rw [Option.bind_some,show wrap64 (i + 1) = i + 1 by unfold wrap64;omega,ih t (i + 1) (by omega) (by omega)]
   by_cases q : (k : Int) ≤ n - (i + 1)
   rotate_left
   ·rw [if_neg q,if_neg (by omega)]
   rw [if_pos q,if_pos (by omega)]
theorem b3u (l : List S56) : b2z l (a8c cfF l) := ⟨b1b cfF l,(a9v b9u l).imp (fun h => (b8a _ _).1 h)⟩
theorem b6w {l ts t : List S56} {k k2 : Nat} {r : List S56 × Int} (ho : b2z l ts) (ht : a3w.f k l = some t) (h : a2q.l1 k2 ([] : List S56) t (l.length : Int) 0 = some r) : a2q.l1 k2 ([] : List S56) ts (l.length : Int) 0 = some r := by
 obtain ⟨hl,hv,rfl⟩ := b2b ht
 have hs := b3u l
 have l1 := ho.1.length_eq
 have l2 := hs.1.length_eq
 rw [b5s _ _ (by rw [l2]) (by omega) _ _ _ (by omega) (by omega)] at h
 rw [b5s _ _ (by rw [l1]) (by omega) _ _ _ (by omega) (by omega), ← h]
 have e : ts.foldl addS (some []) = (a8c cfF l).foldl addS (some []) := by
  rw [a9o ho.2 (fun s hs => hv s (ho.1.subset hs)),a9o hs.2 (fun s hm => hv s (hs.1.subset hm)),b6v (ho.1.trans hs.1.symm)]
 show (if _ then _ else ((ts.foldl addS (some [])).bind _)) = (if _ then _ else (((a8c cfF l).foldl addS (some [])).bind _))
 rw [e]
set_option maxHeartbeats 8000000 in
set_option maxRecDepth 100000 in
theorem a2q.calls (k : Nat) (A0 : Option Addr) (c0 : Nat) (l0 r1 : List (S56)) (r2 : Int) (w : World) (an : Kd.C k56 w A0 l0.length l0) (ao : l0.length ≤ c0) (h : a2q.f k l0 = some (r1,r2)) :
  Calls Try.prog 50 #[.slice A0 l0.length c0] w fun e w' => ∃ ap : Value,e = .returned (.tuple #[ap, .int .i64 r2]) ∧ Kd.R k56 56 w' w.heap.size (fun _ => True) ap r1 ∧ Below w.heap.size w w' := by
 have aZ := Try.underlying56
 have Y := am_ an
 have aH := am_ ao
 clear an ao
 have HB := am_ (Below.refl w.heap.size w)
 have H : (a2q.l0 k l0 l0 (l0.length : Int) 0) = some (r1,r2) := h
 clear h
 have H' := am_ H
 clear H
 go_enter Try.func50,Try.ntmps50
 go_wp2
 go_loopg [12] k (fun kq aI w' => ∃ (a : Int),aI = .int .i64 a ∧ Aside0 (a2q.l0 kq l0 l0 (l0.length : Int) a = some (r1,r2)) ∧ Aside0 (kq ≤ k) ∧ Aside0 (Below w.heap.size w w'))
 case atStart => exact ⟨(0),qs_,H',⟨Nat.le_refl _⟩,⟨qb_⟩⟩
 case round =>
 clear H'
 obtain ⟨a,rfl,HA,T,HB⟩ := hrel
 cases gk with
 | zero => exact absurd HA.out (by simp [a2q.l0])
 | succ k1 =>
 have H := HA.out
 clear HA
 simp only [a2q.l0] at H
 by_cases c2 : a < (l0.length : Int)
 ·rw [if_pos c2] at H
  have Z : decide (a < (l0.length : Int)) = true := decide_eq_true c2
  clear c2
  obtain ⟨aw,H⟩ := qid_ H
  obtain ⟨ax,H⟩ := qid_ H
  replace H := bm_ H
  obtain ⟨ay,aq,H⟩ := H
  have A5 := am_ aq
  clear aq
  by_cases c6 : ay = true
  ·subst c6
   replace H := qip_ H
   have H' := am_ H
   clear H
   have x : 0 ≤ (a : Int) := ot_
   have y : a < (l0.length : Int) := ot_
   obtain ⟨ac,G,m,n⟩ := a5k Y.out a x y
   cases G
   replace m := qh_ HB m
   replace n := qh_ HB n
   replace x := eq_true x
   replace y := eq_true y
   go_wp2_with (first | ((with_reducible refine a0t (N := 5) rfl ?_);refine qev_ 5 #[.int .i64 0, .int .i64 0] 56 ?_;intro D hg w7 hbox hb;have j := am_ (hbox);have ad := qga_ hg;have ae := qga_ hg;replace HB := qbs_ hb;clear hb hbox hg;obtain ⟨af,ag⟩ := qz2_ j;obtain ⟨ah,ai⟩ := qf2_ j) | ((with_reducible refine a0r (f := 66) rfl ?_);refine a2a (some 17) rfl rfl Try.func66 (by kernel_rfl) rfl #[.agg #[.int .i64 ((a0h l0 a).f0), .int .i64 ((a0h l0 a).f1)]] rfl ql_ ?_;(with_reducible refine (a5b.calls ((a0h l0 a).f0) ((a0h l0 a).f1) true _ A5.out).mono ?_);rintro e w9 ⟨rfl,hb⟩;refine ⟨_,rfl,?_⟩;replace j := am_ (a2g (g := D) (o := .cells #[.int .i64 ((a0h l0 a).f0), .int .i64 ((a0h l0 a).f1)] 56 (0,0)) (by refine qd_ ?_;refine a0g (cs := #[.int .i64 ((a0h l0 a).f0), .int .i64 0]) ?_ 1 _ rfl;refine qd_ ?_;refine a0g (cs := #[.int .i64 0, .int .i64 0]) ?_ 0 _ rfl;refine qd_ ?_;exact j.out) hb);replace HB := qbs_ hb;(try clear hb);(try clear ar);(try clear hk);(try clear hi)))
   go_roundg k1
   case measure => have := T.out;omega
   case rel => exact ⟨(wrap64 (a + 1)),qs_,H',⟨by have := T.out;omega⟩,⟨qb_⟩⟩
  replace c6 := be_ c6
  subst c6
  replace H := qin_ H
  simp only [Option.some.injEq,Prod.mk.injEq] at H
  obtain ⟨rfl,rfl⟩ := H
  have x : 0 ≤ (a : Int) := ot_
  have y : a < (l0.length : Int) := ot_
  obtain ⟨ac,G,m,n⟩ := a5k Y.out a x y
  cases G
  replace m := qh_ HB m
  replace n := qh_ HB n
  replace x := eq_true x
  replace y := eq_true y
  go_wp2_with (first | ((with_reducible refine a0t (N := 5) rfl ?_);refine qev_ 5 #[.int .i64 0, .int .i64 0] 56 ?_;intro D hg b1 hbox hb;have j := am_ (hbox);have ad := qga_ hg;have ae := qga_ hg;replace HB := qbs_ hb;clear hb hbox hg;obtain ⟨a0,a1⟩ := qz2_ j;obtain ⟨a2,a3⟩ := qf2_ j) | ((with_reducible refine a0r (f := 66) rfl ?_);refine a2a (some 17) rfl rfl Try.func66 (by kernel_rfl) rfl #[.agg #[.int .i64 ((a0h l0 a).f0), .int .i64 ((a0h l0 a).f1)]] rfl ql_ ?_;(with_reducible refine (a5b.calls ((a0h l0 a).f0) ((a0h l0 a).f1) false _ A5.out).mono ?_);rintro e b2 ⟨rfl,hb⟩;refine ⟨_,rfl,?_⟩;replace j := am_ (a2g (g := D) (o := .cells #[.int .i64 ((a0h l0 a).f0), .int .i64 ((a0h l0 a).f1)] 56 (0,0)) (by refine qd_ ?_;refine a0g (cs := #[.int .i64 ((a0h l0 a).f0), .int .i64 0]) ?_ 1 _ rfl;refine qd_ ?_;refine a0g (cs := #[.int .i64 0, .int .i64 0]) ?_ 0 _ rfl;refine qd_ ?_;exact j.out) hb);replace HB := qbs_ hb;(try clear hb);(try clear ar);(try clear hk);(try clear hi)))
  go_ret2
  exact ⟨_,qx_,by first | exact Kd.a7e _ _ _ _ _ | exact Kd.N_nil _ _ _ _ _ | exact Kd.a7f _ _ _ _ _ | exact Kd.Q_nil _ _ _ _ _ | exact Kd.S_nil _ _ _ _ _,qb_⟩
 rw [if_neg c2] at H
 have Z : decide (a < (l0.length : Int)) = false := decide_eq_false c2
 clear c2
 replace H := bm_ H
 obtain ⟨q,a4,H⟩ := H
 have aJ := am_ a4
 clear a4
 replace H := bm_ H
 obtain ⟨c,a5,H⟩ := H
 have a6 := am_ a5
 clear a5
 have H' := am_ H
 clear H
 go_wp2_with (first | ((with_reducible refine a0r (f := 67) rfl ?_);refine a2a (some 21) rfl rfl Try.func67 (by kernel_rfl) rfl #[.slice A0 l0.length c0] rfl ql_ ?_;(with_reducible refine (a7g.calls _ _ l0 q _ ?s1 aH.out aJ.out).mono ?_);(case s1 => exact qc_ Y);rintro e b3 ⟨b0,rfl,z,hb⟩;refine ⟨_,rfl,?_⟩;have s := am_ (Kd.a4b z (a0z qb_));replace HB := qbs_ hb;(try clear hb);(try clear ar);(try clear hk);(try clear hi);(try clear z);obtain ⟨A,u,az⟩ := Kd.a3c s.out;subst az) | ((with_reducible refine a0r (f := 69) rfl ?_);refine a2a (some 23) rfl rfl Try.func69 (by kernel_rfl) rfl #[.func (.func 70) #[] #[]] rfl ql_ ?_;(with_reducible refine (c0q.calls _).mono ?_);rintro e wy ⟨gby,hge,rfl,hbox,hb⟩;refine ⟨_,rfl,?_⟩;replace s := qrb_ s hb;have BKy := am_ hbox;replace HB := qbs_ hb;clear hb hbox hge) | ((with_reducible refine a0r (f := 68) rfl ?_);refine a2a (some 24) rfl rfl Try.func68 (by kernel_rfl) rfl #[.slice A q.length u, .func (.func 78) #[] #[.pointer (some ⟨gby,0,none⟩)]] rfl ql_ ?_;(with_reducible refine (b8z.calls (fun k_ => some k_ = (.slice A q.length u : Value).ownBlock) (.slice A q.length u) q gby w _ ?s1 ?s2 ?s3 ?s4 ?s5).mono ?_);(case s1 => repeat (first | (with_reducible first | exact HB.out | apply la_ | apply ln_ | apply ld_) | exact HB.out));(case s2 => exact Kd.a7q rfl s.out);(case s3 => exact (qk_ BKy));(case s4 => exact (Kd.R_ne s.out BKy.out (by decide)));(case s5 => exact (b2b a6.out).1);rintro e b4 ⟨rfl,ts_,hts_,au,hb,hkp⟩;refine ⟨_,rfl,?_⟩;replace H' := am_ (b6w hts_ a6.out H'.out);obtain ⟨c,rfl⟩ : ∃ z_,z_ = ts_ := ⟨_,rfl⟩;clear a6 hts_ BKy;replace s := am_ (Kd.c1q rfl au (fun k_ e_ => s.out.1 k_ e_));replace HB := am_ (hb);(try clear hb);(try clear hkp);(try clear au)))
 go_loopg [7,27] k1 (fun kq v7 aK w' => ∃ (i : List (S56)) (b : Int),aK = .int .i64 b ∧ Aside0 (a2q.l1 kq i c (q.length : Int) b = some (r1,r2)) ∧ Aside0 (kq ≤ k1) ∧ Aside0 (Kd.R k56 56 w' w.heap.size (fun k_ => some k_ ≠ ((.slice A q.length u) : Value).ownBlock) v7 i) ∧ Aside0 (Kd.R k56 56 w' w.heap.size (fun k_ => some k_ ≠ (v7 : Value).ownBlock) (.slice A q.length u) c) ∧ Aside0 (Below w.heap.size w w'))
 case atStart => exact ⟨(([] : List (S56))),(0),qs_,H',⟨Nat.le_refl _⟩,⟨by first | exact Kd.a7e _ _ _ _ _ | exact Kd.N_nil _ _ _ _ _ | exact Kd.a7f _ _ _ _ _ | exact Kd.Q_nil _ _ _ _ _ | exact Kd.S_nil _ _ _ _ _⟩,⟨by (with_reducible repeat (first | apply Kd.a2n | apply Kd.a2o | apply Kd.a2i));exact Kd.a2f s.out (fun _ hk => (by simp [Value.ownBlock]))⟩,⟨qb_⟩⟩
 case round =>
 clear H'
 try clear Z
 try clear aw
 try clear ax
 try clear c6
 try clear a0 a1
 try clear af ag
 try clear a2 a3
 try clear ah ai
 try clear m
 try clear n
 try clear x
 try clear y
 obtain ⟨i,b,rfl,HA,av,HO_7,HO_25,HB⟩ := hrel
 have r := (Kd.a0s HO_25.out).1
 rw [r] at HO_25
 (try simp only [r])
 (try simp only [r] at HO_7)
 cases gk with
 | zero => exact absurd HA.out (by simp [a2q.l1])
 | succ k2 =>
 have H := HA.out
 clear HA
 simp only [a2q.l1] at H
 by_cases B : b < (q.length : Int)
 rotate_left
 ·rw [if_neg B] at H
  have W : decide (b < (q.length : Int)) = false := decide_eq_false B
  have aj := W
  try rw [r] at aj
  clear B
  replace H := bm_ H
  obtain ⟨⟨a7,a8⟩,a9,H⟩ := H
  replace H : (some (a7,a8)) = some (r1,r2) := H
  have aL := am_ a9
  clear a9
  simp only [Option.some.injEq,Prod.mk.injEq] at H
  obtain ⟨rfl,rfl⟩ := H
  obtain ⟨J,K,aA⟩ := Kd.a3c HO_7.out
  subst aA
  go_wp2_with (first | ((with_reducible refine a0r (f := 72) rfl ?_);refine a2a (some 36) rfl rfl Try.func72 (by kernel_rfl) rfl #[.slice J i.length K] rfl ql_ ?_;(with_reducible refine (a7d.calls (fun k_ => some k_ = (.slice J i.length K : Value).ownBlock) (.slice J i.length K) i a7 a8 w _ ?s1 ?s2 aL.out).mono ?_);(case s1 => repeat (first | (with_reducible first | exact HB.out | apply la_ | apply ln_ | apply ld_) | exact HB.out));(case s2 => exact Kd.a7q rfl HO_7.out);rintro e b5 ⟨aB,rfl,z,hb,hkp⟩;refine ⟨_,rfl,?_⟩;have ak := am_ (Kd.a2f (ok' := fun k_ => some k_ ≠ (.slice A c.length u : Value).ownBlock) z (fun k_ hk_ => Or.elim hk_ (fun hs_ => fun e_ => (((HO_25.out).1 k_ e_.symm)) hs_) (fun hn_ => (Kd.fresh' (Kd.R_lt (qr_ HO_25)) k_ hn_))));replace HO_25 := am_ (Kd.a2f (ok' := fun k_ => some k_ ≠ (aB : Value).ownBlock) (Kd.b5m (HO_25.out) hkp (fun k_ hk_ hs_ => (hk_) hs_)) (fun k_ hk_ => fun e_ => Or.elim (z.1 k_ e_.symm) (fun hs_ => hk_.2.1 hs_) (fun hn_ => Nat.not_le.2 hk_.2.2 hn_)));replace HB := am_ (hb);clear HO_7;(try clear hb);(try clear hkp);(try clear z)))
  go_ret2
  exact ⟨_,qx_,by (with_reducible repeat (first | apply Kd.a2n | apply Kd.a2o | apply Kd.a2i));exact Kd.a2f ak.out (fun _ hk => trivial),qb_⟩
 rw [if_pos B] at H
 have W : decide (b < (q.length : Int)) = true := decide_eq_true B
 clear B
 obtain ⟨aW,H⟩ := qid_ H
 obtain ⟨aX,H⟩ := qid_ H
 replace H := bm_ H
 obtain ⟨aa,ab,H⟩ := H
 have aM := am_ ab
 clear ab
 have H' := am_ H
 clear H
 have L : 0 ≤ (b : Int) := ot_
 have M : b < (c.length : Int) := ot_
 obtain ⟨E,aC,aF,aG⟩ := a5k (Kd.a0s HO_25.out).2.2 b L M
 cases aC
 replace L := eq_true L
 replace M := eq_true M
 go_wp2_with (first | ((with_reducible refine a0t (N := 9) rfl ?_);refine qev_ 9 #[.int .i64 0, .int .i64 0] 56 ?_;intro d hg aN hbox hb;replace HO_7 := am_ (Kd.a5w (Kd.a6g (qr_ HO_7) d (Nat.le_of_eq hg.symm)) hb);replace HO_25 := am_ (Kd.a5w (Kd.a6g (qr_ HO_25) d (Nat.le_of_eq hg.symm)) hb);have l := am_ (hbox);have aY := qga_ hg;have al := qga_ hg;replace HB := qbs_ hb;clear hb hbox hg;obtain ⟨aO,aP⟩ := qz2_ l;obtain ⟨aQ,aR⟩ := qf2_ l) | ((with_reducible refine a5f (t := 56) (p := 9) rfl ?_);refine a4w (t := 56) (p := 9) (v := ?vo_w24) (w1 := ((aN.setCell ⟨d,0,none⟩ (.int .i64 ((a0h c b).f0))).setCell ⟨d,1,none⟩ (.int .i64 ((a0h c b).f1)))) ?hg ?ho ?hn ?hr ?_;(case ho => rfl);(case hg => rfl);(case hn => rfl);(case hr => exact qq_);intro X hw;replace HO_7 : Aside0 (Kd.R k56 56 X w.heap.size (fun k_ => some k_ ≠ (.slice (some E) c.length u : Value).ownBlock ∧ k_ ≠ d) u7 i) := ⟨(by rw [hw];exact (by (with_reducible repeat (first | apply Kd.a2n | apply Kd.a2o | apply Kd.a2i));exact Kd.a2f (Kd.a4g (p := ⟨d,1,none⟩) (Kd.a4g (p := ⟨d,0,none⟩) (Kd.a2f HO_7.out (fun k_ hk => (⟨hk,hk.2⟩ : _ ∧ k_ ≠ d))) (fun _ hk => hk.2) (.int .i64 ((a0h c b).f0))) (fun _ hk => hk.2) (.int .i64 ((a0h c b).f1))) (fun _ hk => ⟨hk.1.1,hk.1.2⟩)))⟩;replace HO_25 : Aside0 (Kd.R k56 56 X w.heap.size (fun k_ => some k_ ≠ (u7 : Value).ownBlock ∧ k_ ≠ d) (.slice (some E) c.length u) c) := ⟨(by rw [hw];exact (by (with_reducible repeat (first | apply Kd.a2n | apply Kd.a2o | apply Kd.a2i));exact Kd.a2f (Kd.a4g (p := ⟨d,1,none⟩) (Kd.a4g (p := ⟨d,0,none⟩) (Kd.a2f HO_25.out (fun k_ hk => (⟨hk,hk.2⟩ : _ ∧ k_ ≠ d))) (fun _ hk => hk.2) (.int .i64 ((a0h c b).f0))) (fun _ hk => hk.2) (.int .i64 ((a0h c b).f1))) (fun _ hk => ⟨hk.1.1,hk.1.2⟩)))⟩;replace l : Aside0 (X.heap[d]? = some (.cells #[.int .i64 ((a0h c b).f0), .int .i64 ((a0h c b).f1)] 56 (0,0))) := ⟨(by rw [hw];exact (by refine qd_ ?_;refine a0g (cs := #[.int .i64 ((a0h c b).f0), .int .i64 0]) ?_ 1 _ rfl;refine qd_ ?_;refine a0g (cs := #[.int .i64 0, .int .i64 0]) ?_ 0 _ rfl;refine qd_ ?_;exact l.out))⟩;replace HB : Aside0 (Below w.heap.size w X) := ⟨(by rw [hw];exact qb_)⟩;clear hw;obtain ⟨aS,aT⟩ := qz2_ l;obtain ⟨aU,aV⟩ := qf2_ l;obtain ⟨O,P,aD⟩ := Kd.a3c HO_7.out;subst aD) | ((with_reducible refine a0r (f := 71) rfl ?_);refine a2a (some 33) rfl rfl Try.func71 (by kernel_rfl) rfl #[.slice O i.length P, .agg #[.int .i64 ((a0h c b).f0), .int .i64 ((a0h c b).f1)]] rfl ql_ ?_;(with_reducible refine (a2v.calls (fun k_ => some k_ = (.slice O i.length P : Value).ownBlock) (.slice O i.length P) i ((a0h c b).f0) ((a0h c b).f1) aa w _ ?s1 ?s2 aM.out).mono ?_);(case s1 => repeat (first | (with_reducible first | exact HB.out | apply la_ | apply ln_ | apply ld_ | refine ls_ ?_ al.out) | exact HB.out));(case s2 => exact Kd.a7q rfl HO_7.out);rintro e b6 ⟨aE,rfl,z,hb,hkp⟩;refine ⟨_,rfl,?_⟩;have am := am_ (Kd.a2f (ok' := fun k_ => some k_ ≠ (.slice (some E) c.length u : Value).ownBlock ∧ k_ ≠ d) z (fun k_ hk_ => ⟨Or.elim hk_ (fun hs_ => fun e_ => (((HO_25.out).1 k_ e_.symm).1) hs_) (fun hn_ => (Kd.fresh' (Kd.R_lt (qr_ HO_25)) k_ hn_)),Or.elim hk_ (fun hs_ => fun e_ => (Kd.a8k HO_7.out (fun _ hk => hk.2)) (by rw [← e_];exact hs_)) (fun hn_ => (Kd.a8n (g := d) (o := .cells #[.int .i64 ((a0h c b).f0), .int .i64 ((a0h c b).f1)] 56 (0,0)) (qk_ l) k_ hn_))⟩));replace HO_25 := am_ (Kd.a2f (ok' := fun k_ => k_ ≠ d ∧ some k_ ≠ (aE : Value).ownBlock) (Kd.b5m (HO_25.out) hkp (fun k_ hk_ hs_ => (hk_.1) hs_)) (fun k_ hk_ => ⟨hk_.1.2,fun e_ => Or.elim (z.1 k_ e_.symm) (fun hs_ => hk_.2.1 hs_) (fun hn_ => Nat.not_le.2 hk_.2.2 hn_)⟩));replace l := am_ (a7b (qk_ l) hkp (fun hs_ => (fun e_ => (Kd.a8k HO_7.out (fun _ hk => hk.2)) e_) hs_));replace HB := am_ (hb);clear HO_7;(try clear hb);(try clear hkp);(try clear z)))
 (try simp only [← r])
 go_roundg k2
 case measure => have := T.out;have := av.out;omega
 case rel => exact ⟨(aa),(wrap64 (b + 1)),qs_,H',⟨by have := T.out;have := av.out;omega⟩,⟨by (try simp only [r]);(with_reducible repeat (first | apply Kd.a2n | apply Kd.a2o | apply Kd.a2i));exact Kd.a2f am.out (fun _ hk => hk.1)⟩,⟨by (try simp only [r]);(with_reducible repeat (first | apply Kd.a2n | apply Kd.a2o | apply Kd.a2i));exact Kd.a2f HO_25.out (fun _ hk => hk.2)⟩,⟨qb_⟩⟩
mutual
def a1y.j0 : Nat → List (S51) → List (S42) → Int → Bool → Option ((List (S56)) × Int)
 | 0,_,_,_,_ => none
 | k + 1,x0,x1,x2,a => if a = true then (some (([] : List (S56)),1)) else (a1y.l0 k x0 x2 ([] : List (S56)) x1 (x1.length : Int) 0)
def a1y.l0 : Nat → List (S51) → Int → List (S56) → List (S42) → Int → Int → Option ((List (S56)) × Int)
 | 0,_,_,_,_,_,_ => none
 | k + 1,x0,x2,x8,b,d,a => if a < d then (if 0 ≤ a then (if a < (b.length : Int) then ((a1m.f k (([(⟨(a0b b a).f1,(a0b b a).f2⟩ : S56)] : List (S56)))).bind fun e => (if e = true then (if a < (x0.length : Int) then ((a2b.f k ((a0a x0 a).f4) x2).bind fun g => (if g = true then (if x8.length < 8796093022208 then (a1y.l0 k x0 x2 (x8 ++ [(⟨(a0b b a).f1,(a0b b a).f2⟩ : S56)]) b d (wrap64 (a + 1))) else (none)) else (a1y.l0 k x0 x2 x8 b d (wrap64 (a + 1))))) else (none)) else (some (([] : List (S56)),1)))) else (none)) else (none)) else ((a2q.f k x8).bind fun c => (some (c.1,c.2)))
end
def a1y.f (k : Nat) (l0 : List (S51)) (l1 : List (S42)) (a2 : Int) : Option ((List (S56)) × Int) := (a3l.f k l0 l1).bind fun a => (if a = true then (if a2 < 1 then (a1y.j0 k l0 l1 a2 true) else (a1y.j0 k l0 l1 a2 (decide (a2 > 64)))) else (a1y.j0 k l0 l1 a2 true))
theorem a1y.a1h : ∀ k,(∀ y0 y1 y2 y3,LeO (a1y.j0 k y0 y1 y2 y3) (a1y.j0 (k + 1) y0 y1 y2 y3)) ∧ (∀ y0 y1 y2 y3 y4 y5,LeO (a1y.l0 k y0 y1 y2 y3 y4 y5) (a1y.l0 (k + 1) y0 y1 y2 y3 y4 y5))
 | 0 => ⟨fun _ _ _ _ r h => by simp [a1y.j0] at h,fun _ _ _ _ _ _ r h => by simp [a1y.l0] at h⟩
 | k + 1 => by
  obtain ⟨a,b⟩ := a1y.a1h k
  refine ⟨?_,?_⟩ <;> intros <;> (first | unfold a1y.j0 | unfold a1y.l0) <;> with_reducible (repeat' first | apply a | apply b | apply a2b.mono | apply a2q.mono | apply a1m.mono | apply a3l.mono | apply LeO.refl | apply LeO.none | apply LeO.ite | refine LeO.bind ?_ (fun _ => ?_))
theorem a1y.mono : ∀ a0 a1 a2 k,LeO (a1y.f k a0 a1 a2) (a1y.f (k + 1) a0 a1 a2) := by
 intro a0 a1 a2 k
 obtain ⟨a,b⟩ := a1y.a1h k
 unfold a1y.f
 with_reducible (repeat' first | apply a | apply b | apply a2b.mono | apply a2q.mono | apply a1m.mono | apply a3l.mono | apply LeO.refl | apply LeO.none | apply LeO.ite | refine LeO.bind ?_ (fun _ => ?_))
set_option maxHeartbeats 8000000 in
set_option maxRecDepth 100000 in
theorem a1y.calls (k : Nat) (A0 : Option Addr) (c0 : Nat) (l0 : List (S51)) (A1 : Option Addr) (c1 : Nat) (l1 : List (S42)) (a2 : Int) (r1 : List (S56)) (r2 : Int) (w : World) (aZ : Kd.C k51 w A0 l0.length l0) (b0 : l0.length ≤ c0) (b1 : Kd.C k42 w A1 l1.length l1) (b2 : l1.length ≤ c1) (h : a1y.f k l0 l1 a2 = some (r1,r2)) :
  Calls Try.prog 21 #[.slice A0 l0.length c0, .slice A1 l1.length c1, .int .i64 a2] w fun e w' => ∃ b3 : Value,e = .returned (.tuple #[b3, .int .i64 r2]) ∧ Kd.R k56 56 w' w.heap.size (fun _ => True) b3 r1 ∧ Below w.heap.size w w' := by
 have ca := Try.underlying42
 have cb := Try.underlying56
 have ac := am_ aZ
 have ax := am_ b0
 clear aZ b0
 have a9 := am_ b1
 have ay := am_ b2
 clear b1 b2
 have HB := am_ (Below.refl w.heap.size w)
 have H : ((a3l.f k l0 l1).bind fun ae => (if ae = true then (if a2 < 1 then (a1y.j0 k l0 l1 a2 true) else (a1y.j0 k l0 l1 a2 (decide (a2 > 64)))) else (a1y.j0 k l0 l1 a2 true))) = some (r1,r2) := h
 clear h
 have az := am_ H
 clear H
 go_enter Try.func21,Try.ntmps21
 go_upto_region 1 with (fail)
 go_cut [23] (fun bg wc => ∃ (kq : Nat) (a4 : Bool),bg = .bool a4 ∧ Aside0 (a1y.j0 kq l0 l1 a2 a4 = some (r1,r2)) ∧ Aside0 (kq ≤ k) ∧ Aside0 (Below w.heap.size w wc))
 case first =>
  have H := az.out
  clear az
  replace H := bm_ H
  obtain ⟨ae,ai,H⟩ := H
  have A5 := am_ ai
  clear ai
  by_cases c6 : ae = true
  rotate_left
  ·replace c6 := be_ c6
   subst c6
   replace H := qin_ H
   have H' := am_ H
   clear H
   go_wp2_with (first | ((with_reducible refine a0r (f := 37) rfl ?_);refine a2a (some 14) rfl rfl Try.func37 (by kernel_rfl) rfl #[.slice A0 l0.length c0, .slice A1 l1.length c1] rfl ql_ ?_;(with_reducible refine (a3l.calls k _ _ l0 _ _ l1 false _ ?s1 ax.out ?s3 ay.out A5.out).mono ?_);(case s1 => exact qc_ ac);(case s3 => exact qc_ a9);rintro e ce ⟨rfl,hb⟩;refine ⟨_,rfl,?_⟩;replace HB := qbs_ hb;(try clear hb);(try clear aa);(try clear hk);(try clear hi)))
   go_meet
   case rel => exact ⟨_,(true),qs_,H',⟨qo_⟩,⟨qb_⟩⟩
  subst c6
  replace H := qip_ H
  by_cases c7 : a2 < 1
  ·rw [if_pos c7] at H
   have O : decide (a2 < 1) = true := decide_eq_true c7
   clear c7
   (first | rw [O] | (simp only [a4j,a4v];rw [O]) | skip)
   have H' := am_ H
   clear H
   go_wp2_with (first | ((with_reducible refine a0r (f := 37) rfl ?_);refine a2a (some 14) rfl rfl Try.func37 (by kernel_rfl) rfl #[.slice A0 l0.length c0, .slice A1 l1.length c1] rfl ql_ ?_;(with_reducible refine (a3l.calls k _ _ l0 _ _ l1 true _ ?s1 ax.out ?s3 ay.out A5.out).mono ?_);(case s1 => exact qc_ ac);(case s3 => exact qc_ a9);rintro e w8 ⟨rfl,hb⟩;refine ⟨_,rfl,?_⟩;replace HB := qbs_ hb;(try clear hb);(try clear aa);(try clear hk);(try clear hi)))
   go_meet
   case rel => exact ⟨_,(true),qs_,H',⟨qo_⟩,⟨qb_⟩⟩
  rw [if_neg c7] at H
  have O : decide (a2 < 1) = false := decide_eq_false c7
  clear c7
  (first | rw [O] | (simp only [a4j,a4v];rw [O]) | skip)
  have H' := am_ H
  clear H
  go_wp2_with (first | ((with_reducible refine a0r (f := 37) rfl ?_);refine a2a (some 14) rfl rfl Try.func37 (by kernel_rfl) rfl #[.slice A0 l0.length c0, .slice A1 l1.length c1] rfl ql_ ?_;(with_reducible refine (a3l.calls k _ _ l0 _ _ l1 true _ ?s1 ax.out ?s3 ay.out A5.out).mono ?_);(case s1 => exact qc_ ac);(case s3 => exact qc_ a9);rintro e w9 ⟨rfl,hb⟩;refine ⟨_,rfl,?_⟩;replace HB := qbs_ hb;(try clear hb);(try clear aa);(try clear hk);(try clear hi)))
  go_meet
  case rel => exact ⟨_,(decide (a2 > 64)),qs_,H',⟨qo_⟩,⟨qb_⟩⟩
 case rest =>
 clear az
 try clear c1
 try clear c6
 try clear O
 obtain ⟨kq,a4,rfl,HA,aj,HB⟩ := hcut
 cases kq with
 | zero => exact absurd HA.out (by simp [a1y.j0])
 | succ b4 =>
 have H := HA.out
 clear HA
 simp only [a1y.j0] at H
 by_cases ad : a4 = true
 ·subst ad
  replace H := qip_ H
  simp only [Option.some.injEq,Prod.mk.injEq] at H
  obtain ⟨rfl,rfl⟩ := H
  go_wp2
  go_ret2
  exact ⟨_,qx_,by first | exact Kd.a7e _ _ _ _ _ | exact Kd.N_nil _ _ _ _ _ | exact Kd.a7f _ _ _ _ _ | exact Kd.Q_nil _ _ _ _ _ | exact Kd.S_nil _ _ _ _ _,qb_⟩
 replace ad := be_ ad
 subst ad
 replace H := qin_ H
 have H' := am_ H
 clear H
 go_wp2
 go_loopg [8,26] b4 (fun kq v8 bh w' => ∃ (t : List (S56)) (a : Int),bh = .int .i64 a ∧ Aside0 (a1y.l0 kq l0 a2 t l1 (l1.length : Int) a = some (r1,r2)) ∧ Aside0 (kq ≤ b4) ∧ Aside0 (Kd.R k56 56 w' w.heap.size (fun _ => True) v8 t) ∧ Aside0 (Below w.heap.size w w'))
 case atStart => exact ⟨(([] : List (S56))),(0),qs_,H',⟨Nat.le_refl _⟩,⟨by first | exact Kd.a7e _ _ _ _ _ | exact Kd.N_nil _ _ _ _ _ | exact Kd.a7f _ _ _ _ _ | exact Kd.Q_nil _ _ _ _ _ | exact Kd.S_nil _ _ _ _ _⟩,⟨qb_⟩⟩
 case round =>
 clear H'
 try clear c1
 try clear c6
 try clear O
 try clear ad
 obtain ⟨t,a,rfl,HA,ak,HO_8,HB⟩ := hrel
 cases gk with
 | zero => exact absurd HA.out (by simp [a1y.l0])
 | succ k2 =>
 have H := HA.out
 clear HA
 simp only [a1y.l0] at H
 by_cases ab : a < (l1.length : Int)
 rotate_left
 ·rw [if_neg ab] at H
  have aT : decide (a < (l1.length : Int)) = false := decide_eq_false ab
  clear ab
  replace H := bm_ H
  obtain ⟨⟨aA,aC⟩,aD,H⟩ := H
  replace H : (some (aA,aC)) = some (r1,r2) := H
  have ai := am_ aD
  clear aD
  simp only [Option.some.injEq,Prod.mk.injEq] at H
  obtain ⟨rfl,rfl⟩ := H
  obtain ⟨b6,b7,b8⟩ := Kd.a3c HO_8.out
  subst b8
  go_wp2_with (first | ((with_reducible refine a0r (f := 50) rfl ?_);refine a2a (some 53) rfl rfl Try.func50 (by kernel_rfl) rfl #[.slice b6 t.length b7] rfl ql_ ?_;(with_reducible refine (a2q.calls k2 _ _ t aA aC _ ?s1 ?s2 ai.out).mono ?_);(case s1 => exact qv_ (Kd.a0s HO_8.out).2.2);(case s2 => exact (Kd.a0s HO_8.out).2.1);rintro e cf ⟨cc,rfl,aE,hb⟩;refine ⟨_,rfl,?_⟩;have aU := am_ (Kd.a4b (Kd.a4d aE (Kd.R_lt (qr_ HO_8))) (a0z qb_));replace HO_8 := qel_ HO_8 aE hb;replace HB := qbs_ hb;(try clear hb);(try clear aa);(try clear hk);(try clear hi);(try clear aE)))
  go_ret2
  exact ⟨_,qx_,by (with_reducible repeat (first | apply Kd.a2n | apply Kd.a2o | apply Kd.a2i));exact Kd.a2f aU.out (fun _ hk => trivial),qb_⟩
 rw [if_pos ab] at H
 have aT : decide (a < (l1.length : Int)) = true := decide_eq_true ab
 clear ab
 obtain ⟨bR,H⟩ := qid_ H
 obtain ⟨bS,H⟩ := qid_ H
 obtain ⟨K,W⟩ : ∃ y_ : List (S56),y_ = (([(⟨(a0b l1 a).f1,(a0b l1 a).f2⟩ : S56)] : List (S56))) := ⟨_,rfl⟩
 replace H : ((a1m.f k2 K).bind fun af => (if af = true then (if a < (l0.length : Int) then ((a2b.f k2 ((a0a l0 a).f4) a2).bind fun ag => (if ag = true then (if t.length < 8796093022208 then (a1y.l0 k2 l0 a2 (t ++ [(⟨(a0b l1 a).f1,(a0b l1 a).f2⟩ : S56)]) l1 (l1.length : Int) (wrap64 (a + 1))) else (none)) else (a1y.l0 k2 l0 a2 t l1 (l1.length : Int) (wrap64 (a + 1))))) else (none)) else (some (([] : List (S56)),1)))) = some (r1,r2) := by first | (rw [W];with_reducible exact H) | (have a5 := (Option.bind_some _ _).symm.trans H;rw [W];with_reducible exact a5) | (have a5 := (Option.bind_some _ _).symm.trans H;with_reducible exact a5) | with_reducible exact H | (rw [W];exact H) | exact H
 have L := am_ W
 clear W
 replace H := bm_ H
 obtain ⟨af,aG,H⟩ := H
 have aH := am_ aG
 clear aG
 by_cases al : af = true
 rotate_left
 ·replace al := be_ al
  subst al
  replace H := qin_ H
  simp only [Option.some.injEq,Prod.mk.injEq] at H
  obtain ⟨rfl,rfl⟩ := H
  have u : 0 ≤ (a : Int) := ot_
  have v : a < (l1.length : Int) := ot_
  obtain ⟨am,a6,n,q,r⟩ := a4h a9.out a u v
  cases a6
  replace n := qh_ HB n
  replace q := qh_ HB q
  replace r := qh_ HB r
  replace u := eq_true u
  replace v := eq_true v
  go_wp2_with (first | ((with_reducible refine a0t (N := 10) rfl ?_);refine qev_ 10 #[.int .i64 0, .int .i64 0, .int .i64 0] 42 ?_;intro i hg cg hbox hb;replace HO_8 := qrb_ HO_8 hb;have d := am_ (hbox);have an := qga_ hg;have ao := qga_ hg;replace HB := qbs_ hb;clear hb hbox hg;obtain ⟨bi,bj,bk⟩ := qz3_ d;obtain ⟨bl,bm,bn⟩ := qf3_ d) | ((with_reducible refine a0t (N := 11) rfl ?_);refine qev_ 11 #[.int .i64 0, .int .i64 0] 56 ?_;intro c hg ch hbox hb;replace HO_8 := am_ (Kd.a5w (Kd.a6g (by (with_reducible repeat (first | apply Kd.a2n | apply Kd.a2o | apply Kd.a2i));exact (Kd.a2f (Kd.a4g (p := ⟨i,2,none⟩) (Kd.a4g (p := ⟨i,1,none⟩) (Kd.a4g (p := ⟨i,0,none⟩) (Kd.b0o HO_8.out d.out (by decide)) (fun _ hk => hk.2) (.int .i64 ((a0b l1 a).f0))) (fun _ hk => hk.2) (.int .i64 ((a0b l1 a).f1))) (fun _ hk => hk.2) (.int .i64 ((a0b l1 a).f2))) (fun _ h_ => h_.1))) c (Nat.le_of_eq hg.symm)) hb);have j := am_ (hbox);have ap := qga_ hg;have aq := qga_ hg;replace HB := qbs_ hb;have l := am_ ((by rw [hg];exact Nat.ne_of_lt (a3v (g := i) (o := .cells #[.int .i64 ((a0b l1 a).f0), .int .i64 ((a0b l1 a).f1), .int .i64 ((a0b l1 a).f2)] 42 (0,0)) (by refine qd_ ?_;refine a0g (cs := #[.int .i64 ((a0b l1 a).f0), .int .i64 ((a0b l1 a).f1), .int .i64 0]) ?_ 2 _ rfl;refine qd_ ?_;refine a0g (cs := #[.int .i64 ((a0b l1 a).f0), .int .i64 0, .int .i64 0]) ?_ 1 _ rfl;refine qd_ ?_;refine a0g (cs := #[.int .i64 0, .int .i64 0, .int .i64 0]) ?_ 0 _ rfl;refine qd_ ?_;exact d.out)) : i ≠ c));have s := am_ ((by rw [hg];exact Nat.ne_of_gt (a3v (g := i) (o := .cells #[.int .i64 ((a0b l1 a).f0), .int .i64 ((a0b l1 a).f1), .int .i64 ((a0b l1 a).f2)] 42 (0,0)) (by refine qd_ ?_;refine a0g (cs := #[.int .i64 ((a0b l1 a).f0), .int .i64 ((a0b l1 a).f1), .int .i64 0]) ?_ 2 _ rfl;refine qd_ ?_;refine a0g (cs := #[.int .i64 ((a0b l1 a).f0), .int .i64 0, .int .i64 0]) ?_ 1 _ rfl;refine qd_ ?_;refine a0g (cs := #[.int .i64 0, .int .i64 0, .int .i64 0]) ?_ 0 _ rfl;refine qd_ ?_;exact d.out)) : c ≠ i));replace d := am_ (a2g (g := i) (o := .cells #[.int .i64 ((a0b l1 a).f0), .int .i64 ((a0b l1 a).f1), .int .i64 ((a0b l1 a).f2)] 42 (0,0)) (by refine qd_ ?_;refine a0g (cs := #[.int .i64 ((a0b l1 a).f0), .int .i64 ((a0b l1 a).f1), .int .i64 0]) ?_ 2 _ rfl;refine qd_ ?_;refine a0g (cs := #[.int .i64 ((a0b l1 a).f0), .int .i64 0, .int .i64 0]) ?_ 1 _ rfl;refine qd_ ?_;refine a0g (cs := #[.int .i64 0, .int .i64 0, .int .i64 0]) ?_ 0 _ rfl;refine qd_ ?_;exact d.out) hb);clear hb hbox hg;have bT := s.out;have bU := l.out;obtain ⟨bo,bp⟩ := qz2_ j;obtain ⟨bq,br⟩ := qf2_ j) | ((with_reducible refine a0t (N := 37) rfl ?_);refine Kd.a5q k56 _ 56 ?hg (N := 37) ?hd (xs := ([(⟨(a0b l1 a).f1,(a0b l1 a).f2⟩ : S56)] : List (S56))) (inner := [.int .i64 ((a0b l1 a).f1), .int .i64 ((a0b l1 a).f2)]) (ok := fun _ => True) (okp := fun _ => True) ?hr ?hp (fun _ hk => hk) trivial (Below.refl _ _) (Nat.le_refl _) (by simp) ?_;(case hd => rfl);(case hg => rfl);(case hr => exact qq_);(case hp => exact (Reps.c2 (show Kd.M k56 _ _ _ (⟨(a0b l1 a).f1,(a0b l1 a).f2⟩ : S56) [.int .i64 ((a0b l1 a).f1), .int .i64 ((a0b l1 a).f2)] from (a6p _ _ _ (⟨(a0b l1 a).f1,(a0b l1 a).f2⟩ : S56) )) (Reps.none _ _)));intro aI ci Y hb hg_ hnew_;clear hg_ hnew_;(first | rw [← L.out] at Y | (simp only [Int.reduceToNat] at Y;rw [← L.out] at Y));have m := am_ (Kd.a4b (Kd.b4a (Kd.a4d Y (Kd.R_lt (by (with_reducible repeat (first | apply Kd.a2n | apply Kd.a2o | apply Kd.a2i));exact (Kd.a2f (Kd.a4g (p := ⟨c,1,none⟩) (Kd.a4g (p := ⟨c,0,none⟩) (Kd.a2f HO_8.out (fun k_ hk => (⟨hk,hk.2⟩ : _ ∧ k_ ≠ c))) (fun _ hk => hk.2) (.int .i64 ((a0b l1 a).f1))) (fun _ hk => hk.2) (.int .i64 ((a0b l1 a).f2))) (fun _ h_ => h_.1))))) (g := c) (o := .cells #[.int .i64 ((a0b l1 a).f1), .int .i64 ((a0b l1 a).f2)] 56 (0,0)) (by refine qd_ ?_;refine a0g (cs := #[.int .i64 ((a0b l1 a).f1), .int .i64 0]) ?_ 1 _ rfl;refine qd_ ?_;refine a0g (cs := #[.int .i64 0, .int .i64 0]) ?_ 0 _ rfl;refine qd_ ?_;exact j.out)) (a0z qb_));replace HO_8 := am_ (Kd.a9i (by (with_reducible repeat (first | apply Kd.a2n | apply Kd.a2o | apply Kd.a2i));exact (Kd.a2f (Kd.a4g (p := ⟨c,1,none⟩) (Kd.a4g (p := ⟨c,0,none⟩) (Kd.a2f HO_8.out (fun k_ hk => (⟨hk,hk.2⟩ : _ ∧ k_ ≠ c))) (fun _ hk => hk.2) (.int .i64 ((a0b l1 a).f1))) (fun _ hk => hk.2) (.int .i64 ((a0b l1 a).f2))) (fun _ h_ => h_.1))) (Kd.a3j Y) hb);replace d := am_ (a2g (g := i) (o := .cells #[.int .i64 ((a0b l1 a).f0), .int .i64 ((a0b l1 a).f1), .int .i64 ((a0b l1 a).f2)] 42 (0,0)) (by refine qdj_ ?_ l;refine qdj_ ?_ l;refine qd_ ?_;exact d.out) hb);replace j := am_ (a2g (g := c) (o := .cells #[.int .i64 ((a0b l1 a).f1), .int .i64 ((a0b l1 a).f2)] 56 (0,0)) (by refine qd_ ?_;refine a0g (cs := #[.int .i64 ((a0b l1 a).f1), .int .i64 0]) ?_ 1 _ rfl;refine qd_ ?_;refine a0g (cs := #[.int .i64 0, .int .i64 0]) ?_ 0 _ rfl;refine qd_ ?_;exact j.out) hb);replace HB := qbs_ hb;clear hb Y;obtain ⟨b9,ba,bb⟩ := Kd.a3c m.out;subst bb) | ((with_reducible refine a0r (f := 49) rfl ?_);refine a2a (some 38) rfl rfl Try.func49 (by kernel_rfl) rfl #[.slice b9 K.length ba] rfl ql_ ?_;(with_reducible refine (a1m.calls k2 _ _ K false _ ?s1 ?s2 aH.out).mono ?_);(case s1 => exact qv_ (Kd.a0s m.out).2.2);(case s2 => exact (Kd.a0s m.out).2.1);rintro e cj ⟨rfl,hb⟩;refine ⟨_,rfl,?_⟩;replace HO_8 := qrb_ HO_8 hb;replace m := qrb_ m hb;replace d := qkb_ d hb;replace j := qkb_ j hb;replace HB := qbs_ hb;(try clear hb);(try clear aa);(try clear hk);(try clear hi)))
  go_ret2
  exact ⟨_,qx_,by first | exact Kd.a7e _ _ _ _ _ | exact Kd.N_nil _ _ _ _ _ | exact Kd.a7f _ _ _ _ _ | exact Kd.Q_nil _ _ _ _ _ | exact Kd.S_nil _ _ _ _ _,qb_⟩
 subst al
 replace H := qip_ H
 obtain ⟨bV,H⟩ := qid_ H
 replace H := bm_ H
 obtain ⟨ag,aJ,H⟩ := H
 have b5 := am_ aJ
 clear aJ
 by_cases ar : ag = true
 rotate_left
 ·replace ar := be_ ar
  subst ar
  replace H := qin_ H
  have H' := am_ H
  clear H
  have u : 0 ≤ (a : Int) := ot_
  have v : a < (l1.length : Int) := ot_
  obtain ⟨am,a6,n,q,r⟩ := a4h a9.out a u v
  cases a6
  replace n := qh_ HB n
  replace q := qh_ HB q
  replace r := qh_ HB r
  replace u := eq_true u
  replace v := eq_true v
  go_wp2_with (first | ((with_reducible refine a0t (N := 10) rfl ?_);refine qev_ 10 #[.int .i64 0, .int .i64 0, .int .i64 0] 42 ?_;intro i hg ck hbox hb;replace HO_8 := qrb_ HO_8 hb;have d := am_ (hbox);have an := qga_ hg;have ao := qga_ hg;replace HB := qbs_ hb;clear hb hbox hg;obtain ⟨bs,bt,bu⟩ := qz3_ d;obtain ⟨bv,bw,bx⟩ := qf3_ d) | ((with_reducible refine a0t (N := 11) rfl ?_);refine qev_ 11 #[.int .i64 0, .int .i64 0] 56 ?_;intro c hg cl hbox hb;replace HO_8 := am_ (Kd.a5w (Kd.a6g (by (with_reducible repeat (first | apply Kd.a2n | apply Kd.a2o | apply Kd.a2i));exact (Kd.a2f (Kd.a4g (p := ⟨i,2,none⟩) (Kd.a4g (p := ⟨i,1,none⟩) (Kd.a4g (p := ⟨i,0,none⟩) (Kd.b0o HO_8.out d.out (by decide)) (fun _ hk => hk.2) (.int .i64 ((a0b l1 a).f0))) (fun _ hk => hk.2) (.int .i64 ((a0b l1 a).f1))) (fun _ hk => hk.2) (.int .i64 ((a0b l1 a).f2))) (fun _ h_ => h_.1))) c (Nat.le_of_eq hg.symm)) hb);have j := am_ (hbox);have ap := qga_ hg;have aq := qga_ hg;replace HB := qbs_ hb;have l := am_ ((by rw [hg];exact Nat.ne_of_lt (a3v (g := i) (o := .cells #[.int .i64 ((a0b l1 a).f0), .int .i64 ((a0b l1 a).f1), .int .i64 ((a0b l1 a).f2)] 42 (0,0)) (by refine qd_ ?_;refine a0g (cs := #[.int .i64 ((a0b l1 a).f0), .int .i64 ((a0b l1 a).f1), .int .i64 0]) ?_ 2 _ rfl;refine qd_ ?_;refine a0g (cs := #[.int .i64 ((a0b l1 a).f0), .int .i64 0, .int .i64 0]) ?_ 1 _ rfl;refine qd_ ?_;refine a0g (cs := #[.int .i64 0, .int .i64 0, .int .i64 0]) ?_ 0 _ rfl;refine qd_ ?_;exact d.out)) : i ≠ c));have s := am_ ((by rw [hg];exact Nat.ne_of_gt (a3v (g := i) (o := .cells #[.int .i64 ((a0b l1 a).f0), .int .i64 ((a0b l1 a).f1), .int .i64 ((a0b l1 a).f2)] 42 (0,0)) (by refine qd_ ?_;refine a0g (cs := #[.int .i64 ((a0b l1 a).f0), .int .i64 ((a0b l1 a).f1), .int .i64 0]) ?_ 2 _ rfl;refine qd_ ?_;refine a0g (cs := #[.int .i64 ((a0b l1 a).f0), .int .i64 0, .int .i64 0]) ?_ 1 _ rfl;refine qd_ ?_;refine a0g (cs := #[.int .i64 0, .int .i64 0, .int .i64 0]) ?_ 0 _ rfl;refine qd_ ?_;exact d.out)) : c ≠ i));replace d := am_ (a2g (g := i) (o := .cells #[.int .i64 ((a0b l1 a).f0), .int .i64 ((a0b l1 a).f1), .int .i64 ((a0b l1 a).f2)] 42 (0,0)) (by refine qd_ ?_;refine a0g (cs := #[.int .i64 ((a0b l1 a).f0), .int .i64 ((a0b l1 a).f1), .int .i64 0]) ?_ 2 _ rfl;refine qd_ ?_;refine a0g (cs := #[.int .i64 ((a0b l1 a).f0), .int .i64 0, .int .i64 0]) ?_ 1 _ rfl;refine qd_ ?_;refine a0g (cs := #[.int .i64 0, .int .i64 0, .int .i64 0]) ?_ 0 _ rfl;refine qd_ ?_;exact d.out) hb);clear hb hbox hg;have bW := s.out;have bX := l.out;obtain ⟨bz,bA⟩ := qz2_ j;obtain ⟨bB,bC⟩ := qf2_ j) | ((with_reducible refine a0t (N := 37) rfl ?_);refine Kd.a5q k56 _ 56 ?hg (N := 37) ?hd (xs := ([(⟨(a0b l1 a).f1,(a0b l1 a).f2⟩ : S56)] : List (S56))) (inner := [.int .i64 ((a0b l1 a).f1), .int .i64 ((a0b l1 a).f2)]) (ok := fun _ => True) (okp := fun _ => True) ?hr ?hp (fun _ hk => hk) trivial (Below.refl _ _) (Nat.le_refl _) (by simp) ?_;(case hd => rfl);(case hg => rfl);(case hr => exact qq_);(case hp => exact (Reps.c2 (show Kd.M k56 _ _ _ (⟨(a0b l1 a).f1,(a0b l1 a).f2⟩ : S56) [.int .i64 ((a0b l1 a).f1), .int .i64 ((a0b l1 a).f2)] from (a6p _ _ _ (⟨(a0b l1 a).f1,(a0b l1 a).f2⟩ : S56) )) (Reps.none _ _)));intro aI cm Z hb hg_ hnew_;clear hg_ hnew_;(first | rw [← L.out] at Z | (simp only [Int.reduceToNat] at Z;rw [← L.out] at Z));have m := am_ (Kd.a4b (Kd.b4a (Kd.a4d Z (Kd.R_lt (by (with_reducible repeat (first | apply Kd.a2n | apply Kd.a2o | apply Kd.a2i));exact (Kd.a2f (Kd.a4g (p := ⟨c,1,none⟩) (Kd.a4g (p := ⟨c,0,none⟩) (Kd.a2f HO_8.out (fun k_ hk => (⟨hk,hk.2⟩ : _ ∧ k_ ≠ c))) (fun _ hk => hk.2) (.int .i64 ((a0b l1 a).f1))) (fun _ hk => hk.2) (.int .i64 ((a0b l1 a).f2))) (fun _ h_ => h_.1))))) (g := c) (o := .cells #[.int .i64 ((a0b l1 a).f1), .int .i64 ((a0b l1 a).f2)] 56 (0,0)) (by refine qd_ ?_;refine a0g (cs := #[.int .i64 ((a0b l1 a).f1), .int .i64 0]) ?_ 1 _ rfl;refine qd_ ?_;refine a0g (cs := #[.int .i64 0, .int .i64 0]) ?_ 0 _ rfl;refine qd_ ?_;exact j.out)) (a0z qb_));replace HO_8 := am_ (Kd.a9i (by (with_reducible repeat (first | apply Kd.a2n | apply Kd.a2o | apply Kd.a2i));exact (Kd.a2f (Kd.a4g (p := ⟨c,1,none⟩) (Kd.a4g (p := ⟨c,0,none⟩) (Kd.a2f HO_8.out (fun k_ hk => (⟨hk,hk.2⟩ : _ ∧ k_ ≠ c))) (fun _ hk => hk.2) (.int .i64 ((a0b l1 a).f1))) (fun _ hk => hk.2) (.int .i64 ((a0b l1 a).f2))) (fun _ h_ => h_.1))) (Kd.a3j Z) hb);replace d := am_ (a2g (g := i) (o := .cells #[.int .i64 ((a0b l1 a).f0), .int .i64 ((a0b l1 a).f1), .int .i64 ((a0b l1 a).f2)] 42 (0,0)) (by refine qdj_ ?_ l;refine qdj_ ?_ l;refine qd_ ?_;exact d.out) hb);replace j := am_ (a2g (g := c) (o := .cells #[.int .i64 ((a0b l1 a).f1), .int .i64 ((a0b l1 a).f2)] 56 (0,0)) (by refine qd_ ?_;refine a0g (cs := #[.int .i64 ((a0b l1 a).f1), .int .i64 0]) ?_ 1 _ rfl;refine qd_ ?_;refine a0g (cs := #[.int .i64 0, .int .i64 0]) ?_ 0 _ rfl;refine qd_ ?_;exact j.out) hb);replace HB := qbs_ hb;clear hb Z;obtain ⟨bc,bd,be⟩ := Kd.a3c m.out;subst be) | ((with_reducible refine a0r (f := 49) rfl ?_);refine a2a (some 38) rfl rfl Try.func49 (by kernel_rfl) rfl #[.slice bc K.length bd] rfl ql_ ?_;(with_reducible refine (a1m.calls k2 _ _ K true _ ?s1 ?s2 aH.out).mono ?_);(case s1 => exact qv_ (Kd.a0s m.out).2.2);(case s2 => exact (Kd.a0s m.out).2.1);rintro e cn ⟨rfl,hb⟩;refine ⟨_,rfl,?_⟩;replace HO_8 := qrb_ HO_8 hb;replace m := qrb_ m hb;replace d := qkb_ d hb;replace j := qkb_ j hb;replace HB := qbs_ hb;(try clear hb);(try clear aa);(try clear hk);(try clear hi);have P : 0 ≤ (a : Int) := ot_;have T : a < (l0.length : Int) := ot_;obtain ⟨aV,aK,aM,a7,a8,ah,x,y,z,A,B,D,E,G,J⟩ := a5j ac.out a P T;cases ah;replace x := qh_ HB x;replace y := qh_ HB y;replace z := qh_ HB z;replace A := qh_ HB A;replace B := qh_ HB B;have av := am_ E;have aw := am_ D;clear E D;have a0 := am_ J;have a1 := am_ G;clear J G;replace P := eq_true P;replace T := eq_true T) | ((with_reducible refine a0r (f := 48) rfl ?_);refine a2a (some 46) rfl rfl Try.func48 (by kernel_rfl) rfl #[.slice a7 ((a0a l0 a).f4).length a8, .int .i64 a2] rfl ql_ ?_;(with_reducible refine (a2b.calls k2 _ _ ((a0a l0 a).f4) a2 false _ ?s1 a1.out b5.out).mono ?_);(case s1 => exact qc_ a0);rintro e w' ⟨rfl,⟨nd,rfl⟩⟩;refine ⟨_,rfl,?_⟩))
  go_roundg k2
  case measure => have := aj.out;have := ak.out;omega
  case rel => exact ⟨(t),(wrap64 (a + 1)),qs_,H',⟨by have := aj.out;have := ak.out;omega⟩,⟨by (with_reducible repeat (first | apply Kd.a2n | apply Kd.a2o | apply Kd.a2i));exact Kd.a2f HO_8.out (fun _ hk => trivial)⟩,⟨qb_⟩⟩
 subst ar
 replace H := qip_ H
 by_cases au : t.length < 8796093022208
 rotate_left
 ·rw [if_neg au] at H
  exact absurd H (by simp)
 rw [if_pos au] at H
 have aW := am_ au
 clear au
 obtain ⟨aN,X⟩ : ∃ y_ : List (S56),y_ = (t ++ [(⟨(a0b l1 a).f1,(a0b l1 a).f2⟩ : S56)]) := ⟨_,rfl⟩
 replace H : (a1y.l0 k2 l0 a2 aN l1 (l1.length : Int) (wrap64 (a + 1))) = some (r1,r2) := by first | (rw [X];with_reducible exact H) | (have a5 := (Option.bind_some _ _).symm.trans H;rw [X];with_reducible exact a5) | (have a5 := (Option.bind_some _ _).symm.trans H;with_reducible exact a5) | with_reducible exact H | (rw [X];exact H) | exact H
 have aX := am_ X
 clear X
 have H' := am_ H
 clear H
 have u : 0 ≤ (a : Int) := ot_
 have v : a < (l1.length : Int) := ot_
 obtain ⟨am,a6,n,q,r⟩ := a4h a9.out a u v
 cases a6
 replace n := qh_ HB n
 replace q := qh_ HB q
 replace r := qh_ HB r
 replace u := eq_true u
 replace v := eq_true v
 go_wp2_with (first | ((with_reducible refine a0t (N := 10) rfl ?_);refine qev_ 10 #[.int .i64 0, .int .i64 0, .int .i64 0] 42 ?_;intro i hg co hbox hb;replace HO_8 := qrb_ HO_8 hb;have d := am_ (hbox);have an := qga_ hg;have ao := qga_ hg;replace HB := qbs_ hb;clear hb hbox hg;obtain ⟨bD,bE,bF⟩ := qz3_ d;obtain ⟨bG,bH,bI⟩ := qf3_ d) | ((with_reducible refine a0t (N := 11) rfl ?_);refine qev_ 11 #[.int .i64 0, .int .i64 0] 56 ?_;intro c hg cp hbox hb;replace HO_8 := am_ (Kd.a5w (Kd.a6g (by (with_reducible repeat (first | apply Kd.a2n | apply Kd.a2o | apply Kd.a2i));exact (Kd.a2f (Kd.a4g (p := ⟨i,2,none⟩) (Kd.a4g (p := ⟨i,1,none⟩) (Kd.a4g (p := ⟨i,0,none⟩) (Kd.b0o HO_8.out d.out (by decide)) (fun _ hk => hk.2) (.int .i64 ((a0b l1 a).f0))) (fun _ hk => hk.2) (.int .i64 ((a0b l1 a).f1))) (fun _ hk => hk.2) (.int .i64 ((a0b l1 a).f2))) (fun _ h_ => h_.1))) c (Nat.le_of_eq hg.symm)) hb);have j := am_ (hbox);have ap := qga_ hg;have aq := qga_ hg;replace HB := qbs_ hb;have l := am_ ((by rw [hg];exact Nat.ne_of_lt (a3v (g := i) (o := .cells #[.int .i64 ((a0b l1 a).f0), .int .i64 ((a0b l1 a).f1), .int .i64 ((a0b l1 a).f2)] 42 (0,0)) (by refine qd_ ?_;refine a0g (cs := #[.int .i64 ((a0b l1 a).f0), .int .i64 ((a0b l1 a).f1), .int .i64 0]) ?_ 2 _ rfl;refine qd_ ?_;refine a0g (cs := #[.int .i64 ((a0b l1 a).f0), .int .i64 0, .int .i64 0]) ?_ 1 _ rfl;refine qd_ ?_;refine a0g (cs := #[.int .i64 0, .int .i64 0, .int .i64 0]) ?_ 0 _ rfl;refine qd_ ?_;exact d.out)) : i ≠ c));have s := am_ ((by rw [hg];exact Nat.ne_of_gt (a3v (g := i) (o := .cells #[.int .i64 ((a0b l1 a).f0), .int .i64 ((a0b l1 a).f1), .int .i64 ((a0b l1 a).f2)] 42 (0,0)) (by refine qd_ ?_;refine a0g (cs := #[.int .i64 ((a0b l1 a).f0), .int .i64 ((a0b l1 a).f1), .int .i64 0]) ?_ 2 _ rfl;refine qd_ ?_;refine a0g (cs := #[.int .i64 ((a0b l1 a).f0), .int .i64 0, .int .i64 0]) ?_ 1 _ rfl;refine qd_ ?_;refine a0g (cs := #[.int .i64 0, .int .i64 0, .int .i64 0]) ?_ 0 _ rfl;refine qd_ ?_;exact d.out)) : c ≠ i));replace d := am_ (a2g (g := i) (o := .cells #[.int .i64 ((a0b l1 a).f0), .int .i64 ((a0b l1 a).f1), .int .i64 ((a0b l1 a).f2)] 42 (0,0)) (by refine qd_ ?_;refine a0g (cs := #[.int .i64 ((a0b l1 a).f0), .int .i64 ((a0b l1 a).f1), .int .i64 0]) ?_ 2 _ rfl;refine qd_ ?_;refine a0g (cs := #[.int .i64 ((a0b l1 a).f0), .int .i64 0, .int .i64 0]) ?_ 1 _ rfl;refine qd_ ?_;refine a0g (cs := #[.int .i64 0, .int .i64 0, .int .i64 0]) ?_ 0 _ rfl;refine qd_ ?_;exact d.out) hb);clear hb hbox hg;have bY := s.out;have bZ := l.out;obtain ⟨bJ,bK⟩ := qz2_ j;obtain ⟨bL,bM⟩ := qf2_ j) | ((with_reducible refine a0t (N := 37) rfl ?_);refine Kd.a5q k56 _ 56 ?hg (N := 37) ?hd (xs := ([(⟨(a0b l1 a).f1,(a0b l1 a).f2⟩ : S56)] : List (S56))) (inner := [.int .i64 ((a0b l1 a).f1), .int .i64 ((a0b l1 a).f2)]) (ok := fun _ => True) (okp := fun _ => True) ?hr ?hp (fun _ hk => hk) trivial (Below.refl _ _) (Nat.le_refl _) (by simp) ?_;(case hd => rfl);(case hg => rfl);(case hr => exact qq_);(case hp => exact (Reps.c2 (show Kd.M k56 _ _ _ (⟨(a0b l1 a).f1,(a0b l1 a).f2⟩ : S56) [.int .i64 ((a0b l1 a).f1), .int .i64 ((a0b l1 a).f2)] from (a6p _ _ _ (⟨(a0b l1 a).f1,(a0b l1 a).f2⟩ : S56) )) (Reps.none _ _)));intro aI cq a3 hb hg_ hnew_;clear hg_ hnew_;(first | rw [← L.out] at a3 | (simp only [Int.reduceToNat] at a3;rw [← L.out] at a3));have m := am_ (Kd.a4b (Kd.b4a (Kd.a4d a3 (Kd.R_lt (by (with_reducible repeat (first | apply Kd.a2n | apply Kd.a2o | apply Kd.a2i));exact (Kd.a2f (Kd.a4g (p := ⟨c,1,none⟩) (Kd.a4g (p := ⟨c,0,none⟩) (Kd.a2f HO_8.out (fun k_ hk => (⟨hk,hk.2⟩ : _ ∧ k_ ≠ c))) (fun _ hk => hk.2) (.int .i64 ((a0b l1 a).f1))) (fun _ hk => hk.2) (.int .i64 ((a0b l1 a).f2))) (fun _ h_ => h_.1))))) (g := c) (o := .cells #[.int .i64 ((a0b l1 a).f1), .int .i64 ((a0b l1 a).f2)] 56 (0,0)) (by refine qd_ ?_;refine a0g (cs := #[.int .i64 ((a0b l1 a).f1), .int .i64 0]) ?_ 1 _ rfl;refine qd_ ?_;refine a0g (cs := #[.int .i64 0, .int .i64 0]) ?_ 0 _ rfl;refine qd_ ?_;exact j.out)) (a0z qb_));replace HO_8 := am_ (Kd.a9i (by (with_reducible repeat (first | apply Kd.a2n | apply Kd.a2o | apply Kd.a2i));exact (Kd.a2f (Kd.a4g (p := ⟨c,1,none⟩) (Kd.a4g (p := ⟨c,0,none⟩) (Kd.a2f HO_8.out (fun k_ hk => (⟨hk,hk.2⟩ : _ ∧ k_ ≠ c))) (fun _ hk => hk.2) (.int .i64 ((a0b l1 a).f1))) (fun _ hk => hk.2) (.int .i64 ((a0b l1 a).f2))) (fun _ h_ => h_.1))) (Kd.a3j a3) hb);replace d := am_ (a2g (g := i) (o := .cells #[.int .i64 ((a0b l1 a).f0), .int .i64 ((a0b l1 a).f1), .int .i64 ((a0b l1 a).f2)] 42 (0,0)) (by refine qdj_ ?_ l;refine qdj_ ?_ l;refine qd_ ?_;exact d.out) hb);replace j := am_ (a2g (g := c) (o := .cells #[.int .i64 ((a0b l1 a).f1), .int .i64 ((a0b l1 a).f2)] 56 (0,0)) (by refine qd_ ?_;refine a0g (cs := #[.int .i64 ((a0b l1 a).f1), .int .i64 0]) ?_ 1 _ rfl;refine qd_ ?_;refine a0g (cs := #[.int .i64 0, .int .i64 0]) ?_ 0 _ rfl;refine qd_ ?_;exact j.out) hb);replace HB := qbs_ hb;clear hb a3;obtain ⟨aQ,aR,bf⟩ := Kd.a3c m.out;subst bf) | ((with_reducible refine a0r (f := 49) rfl ?_);refine a2a (some 38) rfl rfl Try.func49 (by kernel_rfl) rfl #[.slice aQ K.length aR] rfl ql_ ?_;(with_reducible refine (a1m.calls k2 _ _ K true _ ?s1 ?s2 aH.out).mono ?_);(case s1 => exact qv_ (Kd.a0s m.out).2.2);(case s2 => exact (Kd.a0s m.out).2.1);rintro e cr ⟨rfl,hb⟩;refine ⟨_,rfl,?_⟩;replace HO_8 := qrb_ HO_8 hb;replace m := qrb_ m hb;replace d := qkb_ d hb;replace j := qkb_ j hb;replace HB := qbs_ hb;(try clear hb);(try clear aa);(try clear hk);(try clear hi);have P : 0 ≤ (a : Int) := ot_;have T : a < (l0.length : Int) := ot_;obtain ⟨aV,aK,aM,a7,a8,ah,x,y,z,A,B,D,E,G,J⟩ := a5j ac.out a P T;cases ah;replace x := qh_ HB x;replace y := qh_ HB y;replace z := qh_ HB z;replace A := qh_ HB A;replace B := qh_ HB B;have av := am_ E;have aw := am_ D;clear E D;have a0 := am_ J;have a1 := am_ G;clear J G;replace P := eq_true P;replace T := eq_true T) | ((with_reducible refine a0r (f := 48) rfl ?_);refine a2a (some 46) rfl rfl Try.func48 (by kernel_rfl) rfl #[.slice a7 ((a0a l0 a).f4).length a8, .int .i64 a2] rfl ql_ ?_;(with_reducible refine (a2b.calls k2 _ _ ((a0a l0 a).f4) a2 true _ ?s1 a1.out b5.out).mono ?_);(case s1 => exact qc_ a0);rintro e w' ⟨rfl,⟨nd,rfl⟩⟩;refine ⟨_,rfl,?_⟩;obtain ⟨bN,bO⟩ := qz2_ j;obtain ⟨bP,bQ⟩ := qf2_ j) | ((with_reducible refine a6o (b := .append) (xs := #[.tmp 47, .tmp 49]) rfl ?_);at_builtin;refine Kd.b1f k56 (w0 := w) w.heap.size rfl (.tmp 47) (.tmp 49) 34 56 (.agg #[(.int .i64 0),(.int .i64 0)]) 16 rfl Try.underlying34 b1x rfl (by decide) (by omega) u8 t (⟨(a0b l1 a).f1,(a0b l1 a).f2⟩ : S56) [.int .i64 ((a0b l1 a).f1), .int .i64 ((a0b l1 a).f2)] (fun k_ => some k_ ≠ (.slice aQ K.length aR : Value).ownBlock ∧ k_ ≠ c) (fun _ => False) rfl rfl ?aP (fun _ hk => hk.elim) ?aF ?aO ?aB ?aS ?aL ?_;(case aP => exact a6p _ _ _ (⟨(a0b l1 a).f1,(a0b l1 a).f2⟩ : S56));(case aB => exact qb_);(case aF => exact (fun k_ hk => ⟨Kd.fresh' (Kd.R_lt (qr_ m)) k_ hk,Kd.a8n (g := c) (o := .cells #[.int .i64 ((a0b l1 a).f1), .int .i64 ((a0b l1 a).f2)] 56 (0,0)) (qk_ j) k_ hk⟩));(case aO => exact (by (with_reducible repeat (first | apply Kd.a2n | apply Kd.a2o | apply Kd.a2i));exact Kd.a2f HO_8.out (fun _ hk => ⟨hk.2,hk.1.2⟩)));(case aS => exact (a0z qb_));(case aL => have := aW.out;omega);intro cd ct ho hb hg hat;rw [← aX.out] at ho;replace d := am_ (a4k (g := i) (o := .cells #[.int .i64 ((a0b l1 a).f0), .int .i64 ((a0b l1 a).f1), .int .i64 ((a0b l1 a).f2)] 42 (0,0)) (qk_ d) hg (Kd.R_ne HO_8.out d.out (by decide)));replace j := am_ (a4k (g := c) (o := .cells #[.int .i64 ((a0b l1 a).f1), .int .i64 ((a0b l1 a).f2)] 56 (0,0)) (qk_ j) hg (Kd.a8k HO_8.out (fun _ hk => hk.1.2)));replace m := am_ (Kd.a5e (ok := (fun k_ => k_ ≠ c)) (by (with_reducible repeat (first | apply Kd.a2n | apply Kd.a2o | apply Kd.a2i));exact Kd.a2f m.out (fun _ hk => ⟨hk.2,hk.1.2⟩)) hg hat);replace HB := am_ (hb);have aY := am_ (ho);clear HO_8 ho hb hg hat))
 go_roundg k2
 case measure => have := aj.out;have := ak.out;omega
 case rel => exact ⟨(aN),(wrap64 (a + 1)),qs_,H',⟨by have := aj.out;have := ak.out;omega⟩,⟨by (with_reducible repeat (first | apply Kd.a2n | apply Kd.a2o | apply Kd.a2i));exact Kd.a2f aY.out (fun _ hk => trivial)⟩,⟨qb_⟩⟩
def a3z.f (k : Nat) (l0 : List (S51)) (l1 : List (S58)) : Option (Bool) := (a4n.f k l0 l1).bind fun a => (if a.1 = true then (some a.1) else (some a.1))
theorem a3z.mono : ∀ a0 a1 k,LeO (a3z.f k a0 a1) (a3z.f (k + 1) a0 a1) := by
 intro a0 a1 k
 unfold a3z.f
 with_reducible (repeat' first | apply a4n.mono | apply LeO.refl | apply LeO.none | apply LeO.ite | refine LeO.bind ?_ (fun _ => ?_))
set_option maxHeartbeats 8000000 in
set_option maxRecDepth 100000 in
theorem a3z.calls (k : Nat) (A0 : Option Addr) (c0 : Nat) (l0 : List (S51)) (A1 : Option Addr) (c1 : Nat) (l1 : List (S58)) (r : Bool) (w : World) (v : Kd.C k51 w A0 l0.length l0) (x : l0.length ≤ c0) (y : Kd.C k58 w A1 l1.length l1) (z : l1.length ≤ c1) (h : a3z.f k l0 l1 = some r) :
  Calls Try.prog 14 #[.slice A0 l0.length c0, .slice A1 l1.length c1] w fun e w' => e = .returned (.bool r) ∧ Below w.heap.size w w' := by
 have am := Try.underlying62
 have A := am_ v
 have B := am_ x
 clear v x
 have D := am_ y
 have E := am_ z
 clear y z
 have HB := am_ (Below.refl w.heap.size w)
 have H : ((a4n.f k l0 l1).bind fun a => (if a.1 = true then (some a.1) else (some a.1))) = some r := h
 clear h
 replace H := bm_ H
 obtain ⟨⟨b,q,s⟩,G,H⟩ := H
 replace H : (if b = true then (some b) else (some b)) = some r := H
 have A3 := am_ G
 clear G
 by_cases c4 : b = true
 rotate_left
 ·replace c4 := be_ c4
  subst c4
  replace H := qin_ H
  obtain rfl := si_ H
  go_enter Try.func14,Try.ntmps14
  go_wp2_with (first | ((with_reducible refine a0r (f := 30) rfl ?_);refine a2a (some 10) rfl rfl Try.func30 (by kernel_rfl) rfl #[.slice A0 l0.length c0, .slice A1 l1.length c1] rfl (by (try simp only [List.map_toArray,List.map_cons,List.map_nil]);first | done | rfl) ?_;(with_reducible refine (a4n.b2w k _ _ l0 _ _ l1 q s _ w A.out B.out D.out E.out qb_ A3.out).mono ?_);rintro e ar ⟨a1,a2,a3,O,P,rfl,hb⟩;refine ⟨_,rfl,?_⟩;replace HB := qbs_ hb;clear hb) | ((with_reducible refine a0t (N := 5) rfl ?_);refine qev_ 5 #[.slice none 0 0, .map none, .map none] 62 ?_;intro a4 hg au hbox hb;have m := am_ (hbox);have a5 := qga_ hg;have a6 := qga_ hg;replace HB := qbs_ hb;clear hb hbox hg;obtain ⟨T,W,X⟩ := qz3_ m;obtain ⟨Y,Z,a0⟩ := qf3_ m))
  go_ret
  exact ⟨qx_,qb_⟩
 subst c4
 replace H := qip_ H
 obtain rfl := si_ H
 go_enter Try.func14,Try.ntmps14
 go_wp2_with (first | ((with_reducible refine a0r (f := 30) rfl ?_);refine a2a (some 10) rfl rfl Try.func30 (by kernel_rfl) rfl #[.slice A0 l0.length c0, .slice A1 l1.length c1] rfl (by (try simp only [List.map_toArray,List.map_cons,List.map_nil]);first | done | rfl) ?_;(with_reducible refine (a4n.a7s k _ _ l0 _ _ l1 q s _ w A.out B.out D.out E.out qb_ A3.out).mono ?_);rintro e w5 ⟨n,o,gh_t383,rfl,t,u,hne,J,K,hv,hm,hb⟩;refine ⟨_,rfl,?_⟩;have c := am_ (J);have a7 := am_ ((Nat.le_trans ((a0z qb_)) t : w.heap.size ≤ n));have a8 := am_ ((Nat.le_trans ((a0z qb_)) t : w.heap.size ≤ n));have d := am_ (K);have a9 := am_ ((Nat.le_trans ((a0z qb_)) u : w.heap.size ≤ o));have aa := am_ ((Nat.le_trans ((a0z qb_)) u : w.heap.size ≤ o));replace HB := qbs_ hb;have L := am_ (hne);have M := am_ (Ne.symm hne);have ab := am_ (hv);have ac := am_ (hm);clear t u hne J K hv hm hb) | ((with_reducible refine a0t (N := 5) rfl ?_);refine qev_ 5 #[.slice none 0 0, .map none, .map none] 62 ?_;intro ad hg w6 hbox hb;have p := am_ (hbox);have ae := qga_ hg;have af := qga_ hg;replace HB := qbs_ hb;obtain ⟨g,i⟩ := qnb_ hg c;replace c := qkb_ c hb;obtain ⟨j,l⟩ := qnb_ hg d;replace d := qkb_ d hb;clear hb hbox hg;have an := i.out;have ao := g.out;have ap := l.out;have aq := j.out;obtain ⟨ag,ah,ai⟩ := qz3_ p;obtain ⟨aj,ak,al⟩ := qf3_ p))
 go_ret
 exact ⟨qx_,qb_⟩
end Go.Proofs.Ytheibjkjmkanoaa.Px
