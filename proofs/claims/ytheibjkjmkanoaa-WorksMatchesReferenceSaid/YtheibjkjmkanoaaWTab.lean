/- Words that the kit's print.sh printed, in a copy without what is not used. Conditions: as_ each theorem states. -/
import Derived.Test.YtheibjkjmkanoaaWLast
import Derived.Test.YtheibjkjmkanoaaWWords
namespace Go.Proofs.YtheibjkjmkanoaaW.PrintLast
open Go.Proofs.YtheibjkjmkanoaaW.PrintWords (Aside0)
def a8y (md : Region.Mode) (o : Oper) : List Nat := (o.after.toList.filter (fun e => Region.binds md e)).map (fun e => e.on)
def b3u (md : Region.Mode) (ops : Array Oper) (i : Nat) (oi : Oper) : List Nat := (List.range ops.size).filter fun j => !(j == i) && match ops[j]? with
 | some oj => !(oj.after.any (fun e => Region.binds md e && e.on == i) || oi.apart ops oj)
 | none => false
def rtab (md : Region.Mode) (ops : Array Oper) : Bool × List (List Nat × List Nat) := (Region.noSelect ops, (List.range ops.size).map fun i => match ops[i]? with
 | some o => (a8y md o, b3u md ops i o)
 | none => ([], []))
def a7o (T : List (List Nat × List Nat)) (l : List Bool) (i : Nat) : Bool := !l.getD i true && match T[i]? with
 | some r => r.1.all (fun j => l.getD j false)
 | none => false
def b0b (T : List (List Nat × List Nat)) (l : List Bool) : List Nat := (List.range T.length).filter (a7o T l)
def b2y (T : List (List Nat × List Nat)) (l : List Bool) (i : Nat) : Bool := match T[i]? with
 | some r => r.2.all (fun j => l.getD j true)
 | none => false
def b1x (T : List (List Nat × List Nat)) (l : List Bool) : Bool := (List.range T.length).all fun j => !l.getD j false || match T[j]? with
 | some r => r.1.all (fun k => l.getD k false)
 | none => true
def b0c (T : List (List Nat × List Nat)) (i : Nat) : Nat → Nat → Bool
 | 0, _ => false
 | fuel + 1, d => match T[d]? with
  | some r => r.1.any fun j => j == i || b0c T i fuel j
  | none => false
def lastT (T : List (List Nat × List Nat)) (l : List Bool) (ds : List Nat) (i : Nat) : Bool := ds.all fun d => l.getD d true || b0c T i T.length d
section
variable {md : Region.Mode} {ops : Array Oper} {T : Bool × List (List Nat × List Nat)} {l l' li lj lk : Array Bool} {ds : List Nat} {i j k : Nat}
theorem gd (l : Array Bool) (j : Nat) (b : Bool) : l.getD j b = l.toList.getD j b := by simp [Array.getD_eq_getD_getElem?, List.getD_eq_getElem?_getD]
theorem b4i (o : Oper) (p : Nat → Bool) : o.after.all (fun e => !Region.binds md e || p e.on) = (a8y md o).all p := by
 unfold a8y
 rw [← Array.all_toList]
 induction o.after.toList with
 | nil => rfl
 | cons e r ih =>
  rw [List.all_cons, ih, List.filter_cons]
  cases h : Region.binds md e <;> simp
theorem b9d (o : Oper) (p : Nat → Bool) : o.after.any (fun e => Region.binds md e && p e.on) = (a8y md o).any p := by
 unfold a8y
 rw [← Array.any_toList]
 induction o.after.toList with
 | nil => rfl
 | cons e r ih =>
  rw [List.any_cons, ih, List.filter_cons]
  cases h : Region.binds md e <;> simp
theorem a8f : (rtab md ops).2.length = ops.size := by simp [rtab]
theorem a9m {o : Oper} (h : ops[i]? = some o) : (rtab md ops).2[i]? = some (a8y md o, b3u md ops i o) := by
 have hi := (Array.getElem?_eq_some_iff.1 h).1
 unfold rtab
 rw [List.getElem?_map, List.getElem?_range hi, Option.map_some, h]
theorem a9n (h : ops[i]? = none) : (rtab md ops).2[i]? = none := by
 have hi : ops.size ≤ i := Array.getElem?_eq_none_iff.1 h
 exact List.getElem?_eq_none (by rw [a8f]; exact hi)
theorem b7x : a7o (rtab md ops).2 l.toList i = (!l.getD i true && ((ops[i]?).map (·.after.all fun e => !Region.binds md e || l.getD e.on false)).getD false) := by
 unfold a7o
 rw [gd]
 cases h : ops[i]? with
 | none => rw [a9n h]; rfl
 | some o =>
  rw [a9m h]
  simp only [Option.map_some, Option.getD_some]
  rw [← b4i]
  simp only [gd]
theorem ready_eq : Region.ready md ops l = b0b (rtab md ops).2 l.toList := by
 unfold Region.ready b0b
 rw [a8f]
 refine List.filter_congr (fun i _ => ?_)
 rw [b7x]
theorem free_eq : Region.free md ops l i = b2y (rtab md ops).2 l.toList i := by
 unfold Region.free b2y
 cases h : ops[i]? with
 | none => rw [a9n h]
 | some oi =>
  rw [a9m h]
  simp only [b3u]
  rw [List.all_filter]
  congr 1
  funext j
  rw [gd]
  cases hj : ops[j]? with
  | none => cases (j == i) <;> cases (l.toList.getD j true) <;> simp
  | some oj =>
   cases (j == i) <;> cases (l.toList.getD j true) <;> cases (oj.after.any (fun e => Region.binds md e && e.on == i) || oi.apart ops oj) <;> simp_all
theorem b9e : Region.a9z md ops l = b1x (rtab md ops).2 l.toList := by
 unfold Region.a9z b1x
 rw [a8f]
 congr 1
 funext j
 rw [gd]
 cases h : ops[j]? with
 | none => rw [a9n h]
 | some o =>
  rw [a9m h]
  simp only
  rw [← b4i]
  simp only [gd]
theorem b5m : ∀ (fuel d : Nat), Region.a6t md ops i fuel d = b0c (rtab md ops).2 i fuel d
 | 0, _ => rfl
 | fuel + 1, d => by
  unfold Region.a6t b0c
  cases h : ops[d]? with
  | none => rw [a9n h]
  | some o =>
   rw [a9m h]
   simp only
   rw [← b9d]
   congr 1
   funext e
   rw [b5m fuel]
theorem c2e : Region.lastB md ops l ds i = lastT (rtab md ops).2 l.toList ds i := by
 unfold Region.lastB lastT
 rw [a8f]
 congr 1
 funext d
 rw [gd, b5m]
theorem b2f (h : a7o T.2 l.toList i = true) (hT : rtab md ops = T) : (Region.ready md ops l).contains i = true := by
 subst hT
 rw [ready_eq]
 unfold b0b
 rw [List.contains_iff_mem, List.mem_filter, List.mem_range]
 refine ⟨?_, h⟩
 unfold a7o at h
 rw [Bool.and_eq_true] at h
 cases hq : (rtab md ops).2[i]? with
 | none => rw [hq] at h; simp at h
 | some r => exact (List.getElem?_eq_some_iff.1 hq).1
theorem b1g (h : (l.toList.set i true == l'.toList) = true) : (l.setIfInBounds i true == l') = true := by
 rw [beq_iff_eq] at h ⊢
 apply Array.ext'
 rw [Array.toList_setIfInBounds]
 exact h
def anyT (T : Bool × List (List Nat × List Nat)) (l l' : List Bool) (i : Nat) : Bool := T.1 && b2y T.2 l i && a7o T.2 l i && (l.set i true == l')
theorem b9f (hT : rtab md ops = T) (h : anyT T l.toList l'.toList i = true) : anyB md ops l l' i = true := by
 simp only [anyT, Bool.and_eq_true] at h
 obtain ⟨⟨⟨h1, h2⟩, h3⟩, h4⟩ := h
 have h5 := b2f h3 hT
 have h6 := b1g h4
 subst hT
 simp only [anyB, Bool.and_eq_true]
 exact ⟨⟨⟨h1, by rw [free_eq]; exact h2⟩, h5⟩, h6⟩
def b7y (T : Bool × List (List Nat × List Nat)) (ds : List Nat) (l l' : List Bool) (i : Nat) : Bool := T.1 && b2y T.2 l i && a7o T.2 l i && b1x T.2 l && lastT T.2 l ds i && (l.set i true == l')
theorem c2f (hT : rtab md ops = T) (h : b7y T ds l.toList l'.toList i = true) : takeB md ops ds l l' i = true := by
 simp only [b7y, Bool.and_eq_true] at h
 obtain ⟨⟨⟨⟨⟨h1, h2⟩, h3⟩, h4⟩, h5⟩, h6⟩ := h
 have h7 := b2f h3 hT
 have h8 := b1g h6
 subst hT
 simp only [takeB, Bool.and_eq_true]
 exact ⟨⟨⟨⟨⟨h1, by rw [free_eq]; exact h2⟩, h7⟩, by rw [b9e]; exact h4⟩, by rw [c2e]; exact h5⟩, h8⟩
theorem a4m (hT : rtab md ops = T) (h : (b0b T.2 l.toList == [i] && l.toList.set i true == l'.toList) = true) : b0a md ops l l' i = true := by
 simp only [Bool.and_eq_true] at h
 obtain ⟨h1, h2⟩ := h
 subst hT
 simp only [b0a, Bool.and_eq_true]
 exact ⟨by rw [ready_eq]; exact h1, b1g h2⟩
theorem b9g (hT : rtab md ops = T) (h : (b0b T.2 l.toList == [i, j] && l.toList.set i true == li.toList && l.toList.set j true == lj.toList) = true) : (Region.ready md ops l == [i, j] && l.setIfInBounds i true == li && l.setIfInBounds j true == lj) = true := by
 simp only [Bool.and_eq_true] at h ⊢
 obtain ⟨⟨h1, h2⟩, h3⟩ := h
 subst hT
 exact ⟨⟨by rw [ready_eq]; exact h1, b1g h2⟩, b1g h3⟩
theorem a4l (hT : rtab md ops = T) (h : (b0b T.2 l.toList == []) = true) : (Region.ready md ops l == []) = true := by
 subst hT
 rw [ready_eq]
 exact h
def upM (B : List Nat) (d : Nat) : List Nat → Nat
 | [] => 0
 | n :: r => (2 ^ n ||| (if n < d then B.getD n 0 else 0)) ||| upM B d r
def a5m (T : List (List Nat × List Nat)) (B : List Nat) : Bool := (List.range T.length).all fun d => match T[d]? with
 | some r => (B.getD d 0 ||| upM B d r.1) == upM B d r.1
 | none => false
theorem b6x {B : List Nat} {d i : Nat} : ∀ {ns : List Nat}, (upM B d ns).testBit i = true → ∃ n ∈ ns, n = i ∨ (n < d ∧ (B.getD n 0).testBit i = true)
 | [], h => by simp [upM] at h
 | n :: r, h => by
  unfold upM at h
  rw [Nat.testBit_or, Nat.testBit_or, Bool.or_eq_true, Bool.or_eq_true] at h
  rcases h with (h | h) | h
  ·rw [Nat.testBit_two_pow] at h
   exact ⟨n, List.mem_cons_self, .inl (by simpa using h)⟩
  ·by_cases hn : n < d
   ·rw [if_pos hn] at h
    exact ⟨n, List.mem_cons_self, .inr ⟨hn, h⟩⟩
   ·rw [if_neg hn] at h
    simp at h
  ·obtain ⟨m, hm, h2⟩ := b6x h
   exact ⟨m, List.mem_cons_of_mem _ hm, h2⟩
theorem b4j {T : List (List Nat × List Nat)} {B : List Nat} (hB : a5m T B = true) : ∀ (fuel d : Nat), d < fuel → d < T.length → (B.getD d 0).testBit i = true → b0c T i fuel d = true
 | 0, d, h, _, _ => by omega
 | fuel + 1, d, h, hd, hb => by
  have h1 := List.all_eq_true.1 hB d (List.mem_range.2 hd)
  cases hr : T[d]? with
  | none => rw [hr] at h1; simp at h1
  | some r =>
   rw [hr] at h1
   simp only [beq_iff_eq] at h1
   have h2 : (upM B d r.1).testBit i = true := by rw [← h1, Nat.testBit_or, hb, Bool.true_or]
   obtain ⟨n, hn, h3⟩ := b6x h2
   unfold b0c
   rw [hr]
   simp only
   rw [List.any_eq_true]
   refine ⟨n, hn, ?_⟩
   rcases h3 with rfl | ⟨h4, h5⟩
   ·simp
   ·rw [b4j hB fuel n (by omega) (by omega) h5, Bool.or_true]
def c1k (T : List (List Nat × List Nat)) (B : List Nat) (l : List Bool) (ds : List Nat) (i : Nat) : Bool := ds.all fun d => l.getD d true || (decide (d < T.length) && (B.getD d 0).testBit i)
def c1l (T : Bool × List (List Nat × List Nat)) (B : List Nat) (ds : List Nat) (l l' : List Bool) (i : Nat) : Bool := T.1 && b2y T.2 l i && a7o T.2 l i && b1x T.2 l && c1k T.2 B l ds i && (l.set i true == l')
theorem a5t {B : List Nat} (hT : rtab md ops = T) (hB : a5m T.2 B = true) (h : c1l T B ds l.toList l'.toList i = true) : takeB md ops ds l l' i = true := by
 refine c2f hT ?_
 simp only [c1l, b7y, Bool.and_eq_true] at h ⊢
 obtain ⟨⟨⟨⟨⟨h1, h2⟩, h3⟩, h4⟩, h5⟩, h6⟩ := h
 refine ⟨⟨⟨⟨⟨h1, h2⟩, h3⟩, h4⟩, ?_⟩, h6⟩
 unfold c1k at h5
 unfold lastT
 rw [List.all_eq_true] at h5 ⊢
 intro d hd
 have h7 := h5 d hd
 rw [Bool.or_eq_true, Bool.and_eq_true, decide_eq_true_eq] at h7
 rcases h7 with h7 | ⟨h8, h9⟩
 ·rw [h7, Bool.true_or]
 ·rw [b4j hB _ d h8 h8 h9, Bool.or_true]
theorem a3y {P : Program} {Q : Exit → Act → World → Prop} {S : World → Prop} {n : Nat} {a : Act} {w : World} {B : List Nat} (hT : rtab md ops = T) (hB : a5m T.2 B = true) (h : Aside0 (rtab md ops = T) → Aside0 (a5m T.2 B = true) → a2k P md ops Q S ds n l a w) : a2k P md ops Q S ds n l a w := h ⟨hT⟩ ⟨hB⟩
end
def a8g : Code → Nat → Option (Array Oper)
 | .region id ops _, k => if id == k then some ops else none
 | .seq a b, k => match a8g a k with
  | some o => some o
  | none => a8g b k
 | .cond _ a b, k => match a8g a k with
  | some o => some o
  | none => a8g b k
 | .block _ c, k => a8g c k
 | .loop c, k => a8g c k
 | .scope c, k => a8g c k
 | .rangeFunc _ _ a b, k => match a8g a k with
  | some o => some o
  | none => a8g b k
 | _, _ => none
def opsOf (f : Func) (k : Nat) : Array Oper := ((f.body.bind fun c => a8g c k)).getD #[]
end Go.Proofs.YtheibjkjmkanoaaW.PrintLast
