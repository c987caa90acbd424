/- Words that the kit's print.sh printed, in a copy without what is not used. Conditions: as_ each theorem states. -/
import Derived.Test.YtheibjkjmkanoaaWLast
import Derived.Test.YtheibjkjmkanoaaWWords
namespace Go.Proofs.YtheibjkjmkanoaaW.PrintLast
open Go.Proofs.YtheibjkjmkanoaaW.PrintWords (Aside0)
def a8i (md : Region.Mode) (o : Oper) : List Nat := (o.after.toList.filter (fun e => Region.binds md e)).map (fun e => e.on)
def b2q (md : Region.Mode) (ops : Array Oper) (i : Nat) (oi : Oper) : List Nat := (List.range ops.size).filter fun j => !(j == i) && match ops[j]? with
 | some oj => !(oj.after.any (fun e => Region.binds md e && e.on == i) || oi.apart ops oj)
 | none => false
def rtab (md : Region.Mode) (ops : Array Oper) : Bool × List (List Nat × List Nat) := (Region.noSelect ops, (List.range ops.size).map fun i => match ops[i]? with
 | some o => (a8i md o, b2q md ops i o)
 | none => ([], []))
def a7k (T : List (List Nat × List Nat)) (l : List Bool) (i : Nat) : Bool := !l.getD i true && match T[i]? with
 | some r => r.1.all (fun j => l.getD j false)
 | none => false
def a9d (T : List (List Nat × List Nat)) (l : List Bool) : List Nat := (List.range T.length).filter (a7k T l)
def b1r (T : List (List Nat × List Nat)) (l : List Bool) (i : Nat) : Bool := match T[i]? with
 | some r => r.2.all (fun j => l.getD j true)
 | none => false
def b0q (T : List (List Nat × List Nat)) (l : List Bool) : Bool := (List.range T.length).all fun j => !l.getD j false || match T[j]? with
 | some r => r.1.all (fun k => l.getD k false)
 | none => true
def a9e (T : List (List Nat × List Nat)) (i : Nat) : Nat → Nat → Bool
 | 0, _ => false
 | fuel + 1, d => match T[d]? with
  | some r => r.1.any fun j => j == i || a9e T i fuel j
  | none => false
def lastT (T : List (List Nat × List Nat)) (l : List Bool) (ds : List Nat) (i : Nat) : Bool := ds.all fun d => l.getD d true || a9e T i T.length d
section
variable {md : Region.Mode} {ops : Array Oper} {T : Bool × List (List Nat × List Nat)} {l l' li lj lk : Array Bool} {ds : List Nat} {i j k : Nat}
theorem gd (l : Array Bool) (j : Nat) (b : Bool) : l.getD j b = l.toList.getD j b := by simp [Array.getD_eq_getD_getElem?, List.getD_eq_getElem?_getD]
theorem b3g (o : Oper) (p : Nat → Bool) : o.after.all (fun e => !Region.binds md e || p e.on) = (a8i md o).all p := by
 unfold a8i
 rw [← Array.all_toList]
 induction o.after.toList with
 | nil => rfl
 | cons e r ih =>
  rw [List.all_cons, ih, List.filter_cons]
  cases h : Region.binds md e <;> simp
theorem b7i (o : Oper) (p : Nat → Bool) : o.after.any (fun e => Region.binds md e && p e.on) = (a8i md o).any p := by
 unfold a8i
 rw [← Array.any_toList]
 induction o.after.toList with
 | nil => rfl
 | cons e r ih =>
  rw [List.any_cons, ih, List.filter_cons]
  cases h : Region.binds md e <;> simp
theorem a7u : (rtab md ops).2.length = ops.size := by simp [rtab]
theorem a8s {o : Oper} (h : ops[i]? = some o) : (rtab md ops).2[i]? = some (a8i md o, b2q md ops i o) := by
 have hi := (Array.getElem?_eq_some_iff.1 h).1
 unfold rtab
 rw [List.getElem?_map, List.getElem?_range hi, Option.map_some, h]
theorem a8t (h : ops[i]? = none) : (rtab md ops).2[i]? = none := by
 have hi : ops.size ≤ i := Array.getElem?_eq_none_iff.1 h
 exact List.getElem?_eq_none (by rw [a7u]; exact hi)
theorem b6j : a7k (rtab md ops).2 l.toList i = (!l.getD i true && ((ops[i]?).map (·.after.all fun e => !Region.binds md e || l.getD e.on false)).getD false) := by
 unfold a7k
 rw [gd]
 cases h : ops[i]? with
 | none => rw [a8t h]; rfl
 | some o =>
  rw [a8s h]
  simp only [Option.map_some, Option.getD_some]
  rw [← b3g]
  simp only [gd]
theorem ready_eq : Region.ready md ops l = a9d (rtab md ops).2 l.toList := by
 unfold Region.ready a9d
 rw [a7u]
 refine List.filter_congr (fun i _ => ?_)
 rw [b6j]
theorem free_eq : Region.free md ops l i = b1r (rtab md ops).2 l.toList i := by
 unfold Region.free b1r
 cases h : ops[i]? with
 | none => rw [a8t h]
 | some oi =>
  rw [a8s h]
  simp only [b2q]
  rw [List.all_filter]
  congr 1
  funext j
  rw [gd]
  cases hj : ops[j]? with
  | none => cases (j == i) <;> cases (l.toList.getD j true) <;> simp
  | some oj =>
   cases (j == i) <;> cases (l.toList.getD j true) <;> cases (oj.after.any (fun e => Region.binds md e && e.on == i) || oi.apart ops oj) <;> simp_all
theorem b7j : Region.a9b md ops l = b0q (rtab md ops).2 l.toList := by
 unfold Region.a9b b0q
 rw [a7u]
 congr 1
 funext j
 rw [gd]
 cases h : ops[j]? with
 | none => rw [a8t h]
 | some o =>
  rw [a8s h]
  simp only
  rw [← b3g]
  simp only [gd]
theorem b4c : ∀ (fuel d : Nat), Region.a6s md ops i fuel d = a9e (rtab md ops).2 i fuel d
 | 0, _ => rfl
 | fuel + 1, d => by
  unfold Region.a6s a9e
  cases h : ops[d]? with
  | none => rw [a8t h]
  | some o =>
   rw [a8s h]
   simp only
   rw [← b7i]
   congr 1
   funext e
   rw [b4c fuel]
theorem c0e : Region.lastB md ops l ds i = lastT (rtab md ops).2 l.toList ds i := by
 unfold Region.lastB lastT
 rw [a7u]
 congr 1
 funext d
 rw [gd, b4c]
theorem b0z (h : a7k T.2 l.toList i = true) (hT : rtab md ops = T) : (Region.ready md ops l).contains i = true := by
 subst hT
 rw [ready_eq]
 unfold a9d
 rw [List.contains_iff_mem, List.mem_filter, List.mem_range]
 refine ⟨?_, h⟩
 unfold a7k at h
 rw [Bool.and_eq_true] at h
 cases hq : (rtab md ops).2[i]? with
 | none => rw [hq] at h; simp at h
 | some r => exact (List.getElem?_eq_some_iff.1 hq).1
theorem b0a (h : (l.toList.set i true == l'.toList) = true) : (l.setIfInBounds i true == l') = true := by
 rw [beq_iff_eq] at h ⊢
 apply Array.ext'
 rw [Array.toList_setIfInBounds]
 exact h
def anyT (T : Bool × List (List Nat × List Nat)) (l l' : List Bool) (i : Nat) : Bool := T.1 && b1r T.2 l i && a7k T.2 l i && (l.set i true == l')
theorem b7k (hT : rtab md ops = T) (h : anyT T l.toList l'.toList i = true) : anyB md ops l l' i = true := by
 simp only [anyT, Bool.and_eq_true] at h
 obtain ⟨⟨⟨h1, h2⟩, h3⟩, h4⟩ := h
 have h5 := b0z h3 hT
 have h6 := b0a h4
 subst hT
 simp only [anyB, Bool.and_eq_true]
 exact ⟨⟨⟨h1, by rw [free_eq]; exact h2⟩, h5⟩, h6⟩
def b6k (T : Bool × List (List Nat × List Nat)) (ds : List Nat) (l l' : List Bool) (i : Nat) : Bool := T.1 && b1r T.2 l i && a7k T.2 l i && b0q T.2 l && lastT T.2 l ds i && (l.set i true == l')
theorem c0f (hT : rtab md ops = T) (h : b6k T ds l.toList l'.toList i = true) : takeB md ops ds l l' i = true := by
 simp only [b6k, Bool.and_eq_true] at h
 obtain ⟨⟨⟨⟨⟨h1, h2⟩, h3⟩, h4⟩, h5⟩, h6⟩ := h
 have h7 := b0z h3 hT
 have h8 := b0a h6
 subst hT
 simp only [takeB, Bool.and_eq_true]
 exact ⟨⟨⟨⟨⟨h1, by rw [free_eq]; exact h2⟩, h7⟩, by rw [b7j]; exact h4⟩, by rw [c0e]; exact h5⟩, h8⟩
theorem a4m (hT : rtab md ops = T) (h : (a9d T.2 l.toList == [i] && l.toList.set i true == l'.toList) = true) : a9c md ops l l' i = true := by
 simp only [Bool.and_eq_true] at h
 obtain ⟨h1, h2⟩ := h
 subst hT
 simp only [a9c, Bool.and_eq_true]
 exact ⟨by rw [ready_eq]; exact h1, b0a h2⟩
theorem b7l (hT : rtab md ops = T) (h : (a9d T.2 l.toList == [i, j] && l.toList.set i true == li.toList && l.toList.set j true == lj.toList) = true) : (Region.ready md ops l == [i, j] && l.setIfInBounds i true == li && l.setIfInBounds j true == lj) = true := by
 simp only [Bool.and_eq_true] at h ⊢
 obtain ⟨⟨h1, h2⟩, h3⟩ := h
 subst hT
 exact ⟨⟨by rw [ready_eq]; exact h1, b0a h2⟩, b0a h3⟩
theorem a4c (hT : rtab md ops = T) (h : (a9d T.2 l.toList == []) = true) : (Region.ready md ops l == []) = true := by
 subst hT
 rw [ready_eq]
 exact h
def upM (B : List Nat) (d : Nat) : List Nat → Nat
 | [] => 0
 | n :: r => (2 ^ n ||| (if n < d then B.getD n 0 else 0)) ||| upM B d r
def a5i (T : List (List Nat × List Nat)) (B : List Nat) : Bool := (List.range T.length).all fun d => match T[d]? with
 | some r => (B.getD d 0 ||| upM B d r.1) == upM B d r.1
 | none => false
theorem b5j {B : List Nat} {d i : Nat} : ∀ {ns : List Nat}, (upM B d ns).testBit i = true → ∃ n ∈ ns, n = i ∨ (n < d ∧ (B.getD n 0).testBit i = true)
 | [], h => by simp [upM] at h
 | n :: r, h => by
  unfold upM at h
  rw [Nat.testBit_or, Nat.testBit_or, Bool.or_eq_true, Bool.or_eq_true] at h
  rcases h with (h | h) | h
  ·rw [Nat.testBit_two_pow] at h
   exact ⟨n, List.mem_cons_self, .inl (by simpa using h)⟩
  ·by_cases hn : n < d
   ·rw [if_pos hn] at h
    exact ⟨n, List.mem_cons_self, .inr ⟨hn, h⟩⟩
   ·rw [if_neg hn] at h
    simp at h
  ·obtain ⟨m, hm, h2⟩ := b5j h
   exact ⟨m, List.mem_cons_of_mem _ hm, h2⟩
theorem b3h {T : List (List Nat × List Nat)} {B : List Nat} (hB : a5i T B = true) : ∀ (fuel d : Nat), d < fuel → d < T.length → (B.getD d 0).testBit i = true → a9e T i fuel d = true
 | 0, d, h, _, _ => by omega
 | fuel + 1, d, h, hd, hb => by
  have h1 := List.all_eq_true.1 hB d (List.mem_range.2 hd)
  cases hr : T[d]? with
  | none => rw [hr] at h1; simp at h1
  | some r =>
   rw [hr] at h1
   simp only [beq_iff_eq] at h1
   have h2 : (upM B d r.1).testBit i = true := by rw [← h1, Nat.testBit_or, hb, Bool.true_or]
   obtain ⟨n, hn, h3⟩ := b5j h2
   unfold a9e
   rw [hr]
   simp only
   rw [List.any_eq_true]
   refine ⟨n, hn, ?_⟩
   rcases h3 with rfl | ⟨h4, h5⟩
   ·simp
   ·rw [b3h hB fuel n (by omega) (by omega) h5, Bool.or_true]
def b9n (T : List (List Nat × List Nat)) (B : List Nat) (l : List Bool) (ds : List Nat) (i : Nat) : Bool := ds.all fun d => l.getD d true || (decide (d < T.length) && (B.getD d 0).testBit i)
def b9o (T : Bool × List (List Nat × List Nat)) (B : List Nat) (ds : List Nat) (l l' : List Bool) (i : Nat) : Bool := T.1 && b1r T.2 l i && a7k T.2 l i && b0q T.2 l && b9n T.2 B l ds i && (l.set i true == l')
theorem a5x {B : List Nat} (hT : rtab md ops = T) (hB : a5i T.2 B = true) (h : b9o T B ds l.toList l'.toList i = true) : takeB md ops ds l l' i = true := by
 refine c0f hT ?_
 simp only [b9o, b6k, Bool.and_eq_true] at h ⊢
 obtain ⟨⟨⟨⟨⟨h1, h2⟩, h3⟩, h4⟩, h5⟩, h6⟩ := h
 refine ⟨⟨⟨⟨⟨h1, h2⟩, h3⟩, h4⟩, ?_⟩, h6⟩
 unfold b9n at h5
 unfold lastT
 rw [List.all_eq_true] at h5 ⊢
 intro d hd
 have h7 := h5 d hd
 rw [Bool.or_eq_true, Bool.and_eq_true, decide_eq_true_eq] at h7
 rcases h7 with h7 | ⟨h8, h9⟩
 ·rw [h7, Bool.true_or]
 ·rw [b3h hB _ d h8 h8 h9, Bool.or_true]
theorem a3s {P : Program} {Q : Exit → Act → World → Prop} {S : World → Prop} {n : Nat} {a : Act} {w : World} {B : List Nat} (hT : rtab md ops = T) (hB : a5i T.2 B = true) (h : Aside0 (rtab md ops = T) → Aside0 (a5i T.2 B = true) → a1v P md ops Q S ds n l a w) : a1v P md ops Q S ds n l a w := h ⟨hT⟩ ⟨hB⟩
end
def a7v : Code → Nat → Option (Array Oper)
 | .region id ops _, k => if id == k then some ops else none
 | .seq a b, k => match a7v a k with
  | some o => some o
  | none => a7v b k
 | .cond _ a b, k => match a7v a k with
  | some o => some o
  | none => a7v b k
 | .block _ c, k => a7v c k
 | .loop c, k => a7v c k
 | .scope c, k => a7v c k
 | .rangeFunc _ _ a b, k => match a7v a k with
  | some o => some o
  | none => a7v b k
 | _, _ => none
def opsOf (f : Func) (k : Nat) : Array Oper := ((f.body.bind fun c => a7v c k)).getD #[]
end Go.Proofs.YtheibjkjmkanoaaW.PrintLast
