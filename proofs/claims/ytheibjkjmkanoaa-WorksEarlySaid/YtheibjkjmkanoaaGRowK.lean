/- slices.Clone at stretches: a nil slice stays nil, any other is copied. Conditions: fewer than 2^47 bytes. -/
import Derived.Lib.SliceRun
import Derived.Shelf.SlSortCmp.NoneTotal
import Derived.Test.YtheibjkjmkanoaaPx0
import Derived.Test.YtheibjkjmkanoaaProg
import Derived.Test.YtheibjkjmkanoaaWWords
import Derived.Test.YtheibjkjmkanoaaWLast
import Derived.Test.YtheibjkjmkanoaaWN
import Derived.Test.YtheibjkjmkanoaaWMore
namespace Go.Proofs.Ytheibjkjmkanoaa.Px
open Go.RowKit Go.Proofs.YtheibjkjmkanoaaW.PrintWords Go.Proofs.Ytheibjkjmkanoaa.Given
set_option linter.unusedVariables false
set_option linter.unusedSimpArgs false
def a7g.f (l0 : List S56) : Option (List S56) := if l0.length * 16 ≤ 140737488355328 then some l0 else none
set_option maxHeartbeats 8000000 in
set_option maxRecDepth 100000 in
theorem a7g.calls (A0 : Option Addr) (c0 : Nat) (l0 r : List S56) (w : World) (hr0 : Kd.C k56 w A0 l0.length l0) (hc0 : l0.length ≤ c0) (h : a7g.f l0 = some r) :
  Calls Try.prog 67 #[.slice A0 l0.length c0] w fun e w' => ∃ v0_ : Value, e = .returned (v0_) ∧ Kd.R k56 56 w' w.heap.size (fun _ => True) v0_ r ∧ Below w.heap.size w w' := by
 have qT : ∀ (w : World) (n c n' c' : Nat), (binOp .eql 34 (.slice A0 n c) (.slice none n' c')).run Try.prog w = .ok (.bool A0.isNone) w := fun w n c n' c' => Lib.run_eql_slice_nil w _ _ A0 n c n' c' Try.underlying34
 unfold a7g.f at h
 by_cases hl : l0.length * 16 ≤ 140737488355328
 ·rw [if_pos hl] at h
  obtain rfl := Option.some.inj h
  have HR0 := Aside0.mk hr0
  have HC0 := Aside0.mk hc0
  have HL := Aside0.mk hl
  clear hr0 hc0 hl h
  have HB := Aside0.mk (Below.refl w.heap.size w)
  cases hA : A0.isNone with
  | true =>
   rw [hA] at qT
   have e0 : l0 = [] := by
    cases l0 with
    | nil => rfl
    | cons x t =>
     obtain ⟨a, e, _⟩ := HR0.out.2.2 (by simp)
     rw [e] at hA
     simp at hA
   go_enter Try.func67, Try.ntmps67
   go_wp2
   go_ret
   exact ⟨_, rfl, by rw [e0]; exact Kd.a7e _ _ _ _ _, qb_⟩
  | false =>
   rw [hA] at qT
   go_enter Try.func67, Try.ntmps67
   go_wp2_with (first | ((with_reducible refine a0t (N := 5) rfl ?_); refine Kd.a5q k56 _ 56 ?hg (N := 5) ?hd (xs := ([] : List (S56))) (inner := []) (ok := fun _ => True) (okp := fun _ => True) ?hr ?hp (fun _ hk => hk) trivial (Below.refl _ _) (Nat.le_refl _) (by simp) ?_; (case hd => rfl); (case hg => rfl); (case hr => exact qq_); (case hp => exact (Reps.none _ _)); intro v455 w53 ho54 hb hg_ hnew_; clear hg_ hnew_; have HO456 := Aside0.mk (Kd.a4b ho54 (a0z qb_)); replace HB := qbs_ hb; clear hb ho54) | (at_builtin; refine Kd.a7h k56 (w0 := w) w.heap.size rfl (.tmp 5) (.tmp 6) 34 56 (.agg #[(.int .i64 0), (.int .i64 0)]) 16 rfl Try.underlying34 b1x rfl (by decide) (by omega) v455 [] l0 _ _ _ (fun _ => True) (fun _ => False) rfl rfl ?aO ?aR (fun _ _ h => h) (fun _ h => h.elim) ?aF ?aB ?aS ?aL ?_; (case aR => exact qc_ HR0); (case aB => exact qb_); (case aF => exact (fun _ _ => trivial)); (case aO => exact (qr_ HO456)); (case aS => exact (a0z qb_)); (case aL => have := HL.out; simpa using this); intro v458 w55 ho hb hg hat; replace HB := Aside0.mk (hb); have HO459 := Aside0.mk (ho); clear HO456 ho hb hg hat))
   go_ret
   exact ⟨_, rfl, by simpa using HO459.out, qb_⟩
 ·rw [if_neg hl] at h
  exact absurd h (by simp)
end Go.Proofs.Ytheibjkjmkanoaa.Px
/- The library's sort of a slice of structs, between two vocabularies: the print's rows of the call's own, and the shelf's rows of k cells. Conditions: as each theorem states. -/
namespace Go.Proofs.Ytheibjkjmkanoaa.Given
open Go.RowKit Go.Sort Go.Proofs.YtheibjkjmkanoaaW.PrintWords Go.Proofs.YtheibjkjmkanoaaW.PrintLast Go.Proofs.YtheibjkjmkanoaaW.PrintMore
set_option linter.unusedVariables false
set_option linter.unusedSimpArgs false
set_option linter.unusedSectionVars false
structure Plain {α : Type} (d : Kd α) (enc : α → List Value) : Prop where
 pmk : ∀ w base ok x, d.M w base ok x (enc x)
 opn : ∀ {w base ok x cs}, d.M w base ok x cs → cs = enc x
 len : ∀ x, (enc x).length = d.sz
 one : ∀ x, ∀ v ∈ enc x, v.oneCell' = true
section
variable {α : Type} [Inhabited α] {d : Kd α} {enc : α → List Value} {e : TypeId} {w : World} {base : Nat} {ok : Nat → Prop} {g n cap : Nat} {xs ys : List α}
theorem b7w (hp : Plain d enc) {inner : List Value} (hr : Reps (fun p c => c = enc p) d.sz xs inner) : (flatK enc d.sz xs.toArray).toList = inner := by
 have hl : (flatK enc d.sz xs.toArray).toList.length = inner.length := by
  rw [Array.length_toList, size_flatK, hr.1]
  simp
 refine List.ext_getElem hl fun t h1 h2 => ?_
 have ht : t < xs.toArray.size * d.sz := by rw [Array.length_toList, size_flatK] at h1; exact h1
 have h0 : 0 < d.sz := by
  rcases Nat.eq_zero_or_pos d.sz with h | h
  ·rw [h] at ht; simp at ht
  ·exact h
 have hq : t / d.sz < xs.length := by
  rw [Nat.div_lt_iff_lt_mul h0]
  simpa using ht
 have hg := get_flatK enc d.sz xs.toArray t ht
 rw [getElem!_pos _ t (by simpa using h1)] at hg
 rw [Array.getElem_toList, hg]
 have he := hr.2 (t / d.sz) (xs[t / d.sz]) (by simp [hq])
 have hx : xs.toArray[t / d.sz]! = xs[t / d.sz] := by simp [hq]
 rw [hx, ← he]
 have hm : t % d.sz < d.sz := Nat.mod_lt _ h0
 have hd := Nat.div_add_mod t d.sz
 rw [Nat.mul_comm] at hd
 have hlen : t % d.sz < ((inner.drop (t / d.sz * d.sz)).take d.sz).length := by rw [he, hp.len]; exact hm
 rw [getElem!_pos ((inner.drop (t / d.sz * d.sz)).take d.sz) (t % d.sz) hlen]
 rw [List.getElem_take, List.getElem_drop]
 congr 1
theorem b7x (hp : Plain d enc) (xs : List α) : Reps (fun p c => c = enc p) d.sz xs (flatK enc d.sz xs.toArray).toList := by
 refine ⟨by rw [Array.length_toList, size_flatK]; simp, fun j p hj => ?_⟩
 obtain ⟨hj1, hj2⟩ := List.getElem?_eq_some_iff.1 hj
 have hb : j * d.sz + d.sz ≤ xs.length * d.sz := by rw [← Nat.succ_mul]; exact Nat.mul_le_mul_right _ hj1
 have hl : (((flatK enc d.sz xs.toArray).toList.drop (j * d.sz)).take d.sz).length = d.sz := by
  rw [List.length_take, List.length_drop, Array.length_toList, size_flatK]
  simp
  omega
 refine List.ext_getElem (by rw [hl, hp.len]) fun t h1 h2 => ?_
 have ht : t < d.sz := by rw [hl] at h1; exact h1
 rw [List.getElem_take, List.getElem_drop, Array.getElem_toList]
 have hlt : j * d.sz + t < xs.toArray.size * d.sz := by simp; omega
 have hg := get_flatK enc d.sz xs.toArray (j * d.sz + t) hlt
 rw [getElem!_pos _ _ (by rw [size_flatK]; exact hlt)] at hg
 rw [hg]
 have e1 : (j * d.sz + t) / d.sz = j := (blk_iff d.sz j _ (by omega)).1 ⟨by omega, by omega⟩
 have e2 : (j * d.sz + t) % d.sz = t := by rw [Nat.mod_eq_sub_div_mul, e1]; omega
 rw [e1, e2]
 have hx : xs.toArray[j]! = p := by simp [hj1, hj2]
 rw [hx, getElem!_pos (enc p) t h2]
theorem b5p (h : d.R e w base ok (.slice (some ⟨g, 0, none⟩) n cap) xs) : n = xs.length := (Kd.a0s h).1
theorem b3n (hp : Plain d enc) (h : d.R e w base ok (.slice (some ⟨g, 0, none⟩) n cap) xs) : ∃ cur, base ≤ g ∧ w.heap[g]? = some (.cells cur e (0, 0)) ∧ n ≤ cap ∧ cap ≤ maxLen ∧ cur.size = cap * d.sz ∧ cur.toList.take (xs.length * d.sz) = (flatK enc d.sz xs.toArray).toList := by
 have hn := b5p h
 obtain ⟨hok, inner, ho, hr⟩ := h
 have hr2 : Reps (fun p c => c = enc p) d.sz xs inner := hr.imp_ (fun p c hc => hp.opn hc)
 rcases ho.2 with ⟨hv, _⟩ | ⟨g', cap', cur, hv, hb, hh, hnc, hcm, hcs, ht⟩
 ·cases hv
 injection hv with ha _ hc
 injection ha with ha
 injection ha with hg
 subst hg; subst hc
 exact ⟨cur, hb, hh, by omega, hcm, hcs, by rw [ht, b7w hp hr2]⟩
theorem b7y (hp : Plain d enc) (h : d.R e w base ok (.slice (some ⟨g, 0, none⟩) n cap) xs) : HoldsK enc d.sz w g 0 xs.toArray ∧ g < w.heap.size := by
 obtain ⟨cur, hb, hh, hnc, hcm, hcs, ht⟩ := b3n hp h
 refine ⟨fun j hj => ⟨?_, by simp [World.frozen?, hh]⟩, (Array.getElem?_eq_some_iff.1 hh).1⟩
 have hj' : j < xs.length * d.sz := by simpa using hj
 have h1 : (cur.toList.take (xs.length * d.sz))[j]? = (flatK enc d.sz xs.toArray).toList[j]? := by rw [ht]
 rw [List.getElem?_take_of_lt hj'] at h1
 simp only [World.cell?, hh, Nat.zero_add]
 simp only [Option.isSome_none, Bool.false_eq_true, if_false]
 rw [← Array.getElem?_toList, h1, Array.getElem?_toList]
 rw [getElem!_pos (flatK enc d.sz xs.toArray) j hj, Array.getElem?_eq_getElem hj]
 rfl
theorem b4m {cur : Array Value} {m : Nat} {os : Array Obj} (hh : w.heap[g]? = some (.cells cur e (0, 0))) (ys : List α) : (sortWorldK enc d.sz w g 0 m ys.toArray os).heap[g]? = some (.cells (putCells id 0 (flatK enc d.sz ys.toArray) cur) e (0, 0)) := by
 have hg : g < w.heap.size := (Array.getElem?_eq_some_iff.1 hh).1
 unfold sortWorldK putRowK
 rw [heap_grow_old _ _ (by simpa using hg)]
 simp [putRow, mapBlock, Sort.ahead, Array.getElem?_modify, hh, onCells]
theorem a8f {m : Nat} {os : Array Obj} (ys : List α) : w.grownBy (sortWorldK enc d.sz w g 0 m ys.toArray os) (some g) := by
 refine ⟨rfl, rfl, rfl, by simp [sortWorldK, putRowK], fun k hk hne => ?_⟩
 unfold sortWorldK putRowK
 rw [heap_grow_old _ _ (by simpa using hk)]
 have : g ≠ k := fun e => hne (by rw [e])
 simp [putRow, mapBlock, Sort.ahead, Array.getElem?_modify, this]
theorem b2x (cur : Array Value) (F : Array Value) (h : F.size ≤ cur.size) : (putCells id 0 F cur).toList.take F.size = F.toList := by
 apply List.ext_getElem?
 intro j
 by_cases hj : j < F.size
 ·rw [List.getElem?_take_of_lt hj, Array.getElem?_toList]
  simp [putCells, hj, show j < cur.size by omega]
 ·rw [List.getElem?_take_eq_none (by omega), List.getElem?_eq_none (by simp; omega)]
theorem b6s {m : Nat} {os : Array Obj} (hp : Plain d enc) (h : d.R e w base ok (.slice (some ⟨g, 0, none⟩) n cap) xs) (hl : ys.length = xs.length) : d.R e (sortWorldK enc d.sz w g 0 m ys.toArray os) base ok (.slice (some ⟨g, 0, none⟩) n cap) ys := by
 obtain ⟨cur, hb, hh, hnc, hcm, hcs, ht⟩ := b3n hp h
 have hn := b5p h
 have hk := h.1
 have hfit : (flatK enc d.sz ys.toArray).size ≤ cur.size := by
  rw [size_flatK, hcs]
  refine Nat.mul_le_mul_right _ ?_
  simp
  omega
 have hlen : (flatK enc d.sz ys.toArray).size = ys.length * d.sz := by simp
 refine ⟨hk, (flatK enc d.sz ys.toArray).toList, ⟨by rw [Array.length_toList, hlen], .inr ⟨g, cap, _, by rw [hl, hn], hb, b4m hh ys, by omega, hcm, by simp [putCells, hcs], ?_⟩⟩, (b7x hp ys).imp_ (fun p c hc => by rw [hc]; exact hp.pmk _ _ _ _)⟩
 have h2 := b2x cur (flatK enc d.sz ys.toArray) hfit
 rw [hlen] at h2
 exact h2
theorem b4n {w0 : World} {m : Nat} {os : Array Obj} (ys : List α) (hB : Below w0.heap.size w0 w) (hg : w0.heap.size ≤ g) : Below w0.heap.size w0 (sortWorldK enc d.sz w g 0 m ys.toArray os) :=
 Below.grown hB (a8f ys) hB.size (fun k hk => by obtain rfl : g = k := Option.some.inj hk; exact hg)
theorem b5e {S : Nat → Prop} {m : Nat} {os : Array Obj} (ys : List α) (hS : S g ∨ w.heap.size ≤ g) : Kept w (sortWorldK enc d.sz w g 0 m ys.toArray os) S :=
 Kept.a8j (a8f ys) (Kept.refl w S) (fun k hk => by obtain rfl : g = k := Option.some.inj hk; exact hS)
end
section
variable {α : Type}
def a9m (cf : α → α → Int) (x : α) : List α → List α
 | [] => [x]
 | y :: t => if cf x y < 0 then x :: y :: t else y :: a9m cf x t
def a8c (cf : α → α → Int) : List α → List α
 | [] => []
 | x :: t => a9m cf x (a8c cf t)
structure a7j (cf : α → α → Int) : Prop where
 flip : ∀ x y, cf x y < 0 ↔ 0 < cf y x
 trans : ∀ x y z, cf x y ≤ 0 → cf y z ≤ 0 → cf x z ≤ 0
theorem a7j.zero {cf : α → α → Int} (h : a7j cf) {x y : α} (e : cf x y = 0) : cf y x = 0 := by
 have a := (h.flip x y).2
 have b := (h.flip y x).1
 have c := (h.flip y x).2
 have d := (h.flip x y).1
 omega
theorem a9n (cf : α → α → Int) (x : α) : ∀ l : List α, (a9m cf x l).Perm (x :: l)
 | [] => List.Perm.refl _
 | y :: t => by
  unfold a9m
  split
  ·exact List.Perm.refl _
  ·exact ((a9n cf x t).cons y).trans (List.Perm.swap x y t)
theorem b1b (cf : α → α → Int) : ∀ l : List α, (a8c cf l).Perm l
 | [] => List.Perm.refl _
 | x :: t => (a9n cf x _).trans ((b1b cf t).cons x)
theorem b0j {cf : α → α → Int} (h : a7j cf) (x : α) : ∀ {l : List α}, l.Pairwise (fun a b => cf a b ≤ 0) → (a9m cf x l).Pairwise (fun a b => cf a b ≤ 0)
 | [], _ => by simp [a9m]
 | y :: t, hl => by
  obtain ⟨h1, h2⟩ := List.pairwise_cons.1 hl
  unfold a9m
  split
  ·rename_i c
   refine List.pairwise_cons.2 ⟨fun z hz => ?_, hl⟩
   rcases List.mem_cons.1 hz with rfl | hz
   ·omega
   ·exact h.trans x y z (by omega) (h1 z hz)
  ·rename_i c
   refine List.pairwise_cons.2 ⟨fun z hz => ?_, b0j h x h2⟩
   rcases List.mem_cons.1 ((a9n cf x t).subset hz) with rfl | hz
   ·have := (h.flip y z).2
    have := (h.flip z y).1
    have := (h.flip z y).2
    omega
   ·exact h1 z hz
theorem a9v {cf : α → α → Int} (h : a7j cf) : ∀ l : List α, (a8c cf l).Pairwise (fun a b => cf a b ≤ 0)
 | [] => List.Pairwise.nil
 | x :: t => b0j h x (a9v h t)
end
section
variable {α : Type} {cf : α → α → Int}
theorem a7j.swo (h : a7j cf) : SWO (ltOf cf) where
 irrefl x := by
  have := h.flip x x
  simp only [ltOf, decide_eq_false_iff_not]
  omega
 trans x y z h1 h2 := by
  simp only [ltOf, decide_eq_true_eq] at *
  have a := h.trans x y z (by omega) (by omega)
  have b := (h.flip y z).1 h2
  rcases Int.lt_or_le (cf x z) 0 with c | c
  ·exact c
  ·have e := h.zero (x := x) (y := z) (by omega)
   have := h.trans z x y (by omega) (by omega)
   omega
 ntrans x y z h1 h2 := by
  simp only [ltOf, decide_eq_false_iff_not] at *
  have a := h.flip y x
  have b := h.flip z y
  have c := h.flip x z
  have d := h.flip x y
  have f := h.flip y z
  have := h.trans z y x (by omega) (by omega)
  omega
end
def Grew (w W : World) : Prop := ∃ q os, W = grow (w.drewN q) os
theorem Grew.refl (w : World) : Grew w w := ⟨0, #[], by simp [grow, World.drewN]⟩
theorem Grew.drewN {w W : World} (h : Grew w W) (n : Nat) : Grew w (W.drewN n) := by
 obtain ⟨q, os, rfl⟩ := h
 exact ⟨q + n, os, by simp [grow, World.drewN, Nat.add_assoc]⟩
theorem Grew.drew {w W : World} (h : Grew w W) : Grew w W.drew := h.drewN 1
theorem Grew.alloc {w W W2 : World} {o : Obj} (h : Grew w W) (e : W2 = W.alloc o) : Grew w W2 := by
 obtain ⟨q, os, rfl⟩ := h
 subst e
 exact ⟨q, os ++ #[o], by rw [alloc_eq_grow, grow_grow]⟩
section
variable {P : Program} {ops : Array Oper} {rest : List Oper} {o : Oper} {a : Act} {Q : Exit → Act → World → Prop}
theorem b6t {W : World} (N : Tmp) (cs : Array Value) (t : TypeId)
  (h : ∀ g, g = W.heap.size → ∀ w1, w1.heap[g]? = some (.cells cs t (0, 0)) → Below W.heap.size W w1 → w1 = W.alloc (.cells cs t (0, 0)) → wpList P ops Q rest (a.put o.dst (.pointer (some ⟨g, 0, none⟩))) w1)
  (hd : o.dst = some N := by rfl) (hgd : o.guard = none := by rfl)
  (hrun : (execOp a.eval o).run P W = .ok (.value (.pointer (some ⟨W.heap.size, 0, none⟩))) (W.alloc (.cells cs t (0, 0))) := by first | (go_simp; done) | (go_simp; rfl)) : wpList P ops Q (o :: rest) a W :=
 Kd.a8b hgd hrun (h _ rfl _ (b0n W _) (la_ (Below.refl _ _) _) rfl)
variable {α : Type} {Kc : Act → World → Prop}
end
end Go.Proofs.Ytheibjkjmkanoaa.Given
