/- The library's sort of a slice of structs, between two vocabularies: the print's rows of the call's own, and the shelf's rows of k cells. Conditions: as each theorem states. -/
import Derived.Test.YtfbgkcadnmcakaaProg
import Derived.Test.YtfbgkcadnmcakaaWWords
import Derived.Test.YtfbgkcadnmcakaaWLast
import Derived.Test.YtfbgkcadnmcakaaWKept
import Derived.Test.YtfbgkcadnmcakaaWMore
import Derived.Shelf.SlSortCmp.NoneTotal
namespace Go.Proofs.Ytfbgkcadnmcakaa.Given
open Go.RowKit Go.Sort Go.Proofs.YtfbgkcadnmcakaaW.PrintWords Go.Proofs.YtfbgkcadnmcakaaW.PrintLast Go.Proofs.YtfbgkcadnmcakaaW.PrintMore
set_option linter.unusedVariables false
set_option linter.unusedSimpArgs false
set_option linter.unusedSectionVars false
structure Plain {α : Type} (d : Kd α) (enc : α → List Value) : Prop where
 pmk : ∀ w base ok x, d.M w base ok x (enc x)
 opn : ∀ {w base ok x cs}, d.M w base ok x cs → cs = enc x
 len : ∀ x, (enc x).length = d.sz
 one : ∀ x, ∀ v ∈ enc x, v.oneCell' = true
section
variable {α : Type} [Inhabited α] {d : Kd α} {enc : α → List Value} {e : TypeId} {w : World} {base : Nat} {ok : Nat → Prop} {g n cap : Nat} {xs ys : List α}
theorem b2s (hp : Plain d enc) {inner : List Value} (hr : Reps (fun p c => c = enc p) d.sz xs inner) : (flatK enc d.sz xs.toArray).toList = inner := by
 have hl : (flatK enc d.sz xs.toArray).toList.length = inner.length := by
  rw [Array.length_toList, size_flatK, hr.1]
  simp
 refine List.ext_getElem hl fun t h1 h2 => ?_
 have ht : t < xs.toArray.size * d.sz := by rw [Array.length_toList, size_flatK] at h1; exact h1
 have h0 : 0 < d.sz := by
  rcases Nat.eq_zero_or_pos d.sz with h | h
  ·rw [h] at ht; simp at ht
  ·exact h
 have hq : t / d.sz < xs.length := by
  rw [Nat.div_lt_iff_lt_mul h0]
  simpa using ht
 have hg := get_flatK enc d.sz xs.toArray t ht
 rw [getElem!_pos _ t (by simpa using h1)] at hg
 rw [Array.getElem_toList, hg]
 have he := hr.2 (t / d.sz) (xs[t / d.sz]) (by simp [hq])
 have hx : xs.toArray[t / d.sz]! = xs[t / d.sz] := by simp [hq]
 rw [hx, ← he]
 have hm : t % d.sz < d.sz := Nat.mod_lt _ h0
 have hd := Nat.div_add_mod t d.sz
 rw [Nat.mul_comm] at hd
 have hlen : t % d.sz < ((inner.drop (t / d.sz * d.sz)).take d.sz).length := by rw [he, hp.len]; exact hm
 rw [getElem!_pos ((inner.drop (t / d.sz * d.sz)).take d.sz) (t % d.sz) hlen]
 rw [List.getElem_take, List.getElem_drop]
 congr 1
theorem b2t (hp : Plain d enc) (xs : List α) : Reps (fun p c => c = enc p) d.sz xs (flatK enc d.sz xs.toArray).toList := by
 refine ⟨by rw [Array.length_toList, size_flatK]; simp, fun j p hj => ?_⟩
 obtain ⟨hj1, hj2⟩ := List.getElem?_eq_some_iff.1 hj
 have hb : j * d.sz + d.sz ≤ xs.length * d.sz := by rw [← Nat.succ_mul]; exact Nat.mul_le_mul_right _ hj1
 have hl : (((flatK enc d.sz xs.toArray).toList.drop (j * d.sz)).take d.sz).length = d.sz := by
  rw [List.length_take, List.length_drop, Array.length_toList, size_flatK]
  simp
  omega
 refine List.ext_getElem (by rw [hl, hp.len]) fun t h1 h2 => ?_
 have ht : t < d.sz := by rw [hl] at h1; exact h1
 rw [List.getElem_take, List.getElem_drop, Array.getElem_toList]
 have hlt : j * d.sz + t < xs.toArray.size * d.sz := by simp; omega
 have hg := get_flatK enc d.sz xs.toArray (j * d.sz + t) hlt
 rw [getElem!_pos _ _ (by rw [size_flatK]; exact hlt)] at hg
 rw [hg]
 have e1 : (j * d.sz + t) / d.sz = j := (blk_iff d.sz j _ (by omega)).1 ⟨by omega, by omega⟩
 have e2 : (j * d.sz + t) % d.sz = t := by rw [Nat.mod_eq_sub_div_mul, e1]; omega
 rw [e1, e2]
 have hx : xs.toArray[j]! = p := by simp [hj1, hj2]
 rw [hx, getElem!_pos (enc p) t h2]
theorem b1c (h : d.R e w base ok (.slice (some ⟨g, 0, none⟩) n cap) xs) : n = xs.length := (Kd.a0p h).1
theorem a9j (hp : Plain d enc) (h : d.R e w base ok (.slice (some ⟨g, 0, none⟩) n cap) xs) : ∃ cur, base ≤ g ∧ w.heap[g]? = some (.cells cur e (0, 0)) ∧ n ≤ cap ∧ cap ≤ maxLen ∧ cur.size = cap * d.sz ∧ cur.toList.take (xs.length * d.sz) = (flatK enc d.sz xs.toArray).toList := by
 have hn := b1c h
 obtain ⟨hok, inner, ho, hr⟩ := h
 have hr2 : Reps (fun p c => c = enc p) d.sz xs inner := hr.imp_ (fun p c hc => hp.opn hc)
 rcases ho.2 with ⟨hv, _⟩ | ⟨g', cap', cur, hv, hb, hh, hnc, hcm, hcs, ht⟩
 ·cases hv
 injection hv with ha _ hc
 injection ha with ha
 injection ha with hg
 subst hg; subst hc
 exact ⟨cur, hb, hh, by omega, hcm, hcs, by rw [ht, b2s hp hr2]⟩
theorem b2u (hp : Plain d enc) (h : d.R e w base ok (.slice (some ⟨g, 0, none⟩) n cap) xs) : HoldsK enc d.sz w g 0 xs.toArray ∧ g < w.heap.size := by
 obtain ⟨cur, hb, hh, hnc, hcm, hcs, ht⟩ := a9j hp h
 refine ⟨fun j hj => ⟨?_, by simp [World.frozen?, hh]⟩, (Array.getElem?_eq_some_iff.1 hh).1⟩
 have hj' : j < xs.length * d.sz := by simpa using hj
 have h1 : (cur.toList.take (xs.length * d.sz))[j]? = (flatK enc d.sz xs.toArray).toList[j]? := by rw [ht]
 rw [List.getElem?_take_of_lt hj'] at h1
 simp only [World.cell?, hh, Nat.zero_add]
 simp only [Option.isSome_none, Bool.false_eq_true, if_false]
 rw [← Array.getElem?_toList, h1, Array.getElem?_toList]
 rw [getElem!_pos (flatK enc d.sz xs.toArray) j hj, Array.getElem?_eq_getElem hj]
 rfl
theorem b0g {cur : Array Value} {m : Nat} {os : Array Obj} (hh : w.heap[g]? = some (.cells cur e (0, 0))) (ys : List α) : (sortWorldK enc d.sz w g 0 m ys.toArray os).heap[g]? = some (.cells (putCells id 0 (flatK enc d.sz ys.toArray) cur) e (0, 0)) := by
 have hg : g < w.heap.size := (Array.getElem?_eq_some_iff.1 hh).1
 unfold sortWorldK putRowK
 rw [heap_grow_old _ _ (by simpa using hg)]
 simp [putRow, mapBlock, Sort.ahead, Array.getElem?_modify, hh, onCells]
theorem a7g {m : Nat} {os : Array Obj} (ys : List α) : w.grownBy (sortWorldK enc d.sz w g 0 m ys.toArray os) (some g) := by
 refine ⟨rfl, rfl, rfl, by simp [sortWorldK, putRowK], fun k hk hne => ?_⟩
 unfold sortWorldK putRowK
 rw [heap_grow_old _ _ (by simpa using hk)]
 have : g ≠ k := fun e => hne (by rw [e])
 simp [putRow, mapBlock, Sort.ahead, Array.getElem?_modify, this]
theorem a9a (cur : Array Value) (F : Array Value) (h : F.size ≤ cur.size) : (putCells id 0 F cur).toList.take F.size = F.toList := by
 apply List.ext_getElem?
 intro j
 by_cases hj : j < F.size
 ·rw [List.getElem?_take_of_lt hj, Array.getElem?_toList]
  simp [putCells, hj, show j < cur.size by omega]
 ·rw [List.getElem?_take_eq_none (by omega), List.getElem?_eq_none (by simp; omega)]
theorem b1r {m : Nat} {os : Array Obj} (hp : Plain d enc) (h : d.R e w base ok (.slice (some ⟨g, 0, none⟩) n cap) xs) (hl : ys.length = xs.length) : d.R e (sortWorldK enc d.sz w g 0 m ys.toArray os) base ok (.slice (some ⟨g, 0, none⟩) n cap) ys := by
 obtain ⟨cur, hb, hh, hnc, hcm, hcs, ht⟩ := a9j hp h
 have hn := b1c h
 have hk := h.1
 have hfit : (flatK enc d.sz ys.toArray).size ≤ cur.size := by
  rw [size_flatK, hcs]
  refine Nat.mul_le_mul_right _ ?_
  simp
  omega
 have hlen : (flatK enc d.sz ys.toArray).size = ys.length * d.sz := by simp
 refine ⟨hk, (flatK enc d.sz ys.toArray).toList, ⟨by rw [Array.length_toList, hlen], .inr ⟨g, cap, _, by rw [hl, hn], hb, b0g hh ys, by omega, hcm, by simp [putCells, hcs], ?_⟩⟩, (b2t hp ys).imp_ (fun p c hc => by rw [hc]; exact hp.pmk _ _ _ _)⟩
 have h2 := a9a cur (flatK enc d.sz ys.toArray) hfit
 rw [hlen] at h2
 exact h2
theorem b0h {w0 : World} {m : Nat} {os : Array Obj} (ys : List α) (hB : Below w0.heap.size w0 w) (hg : w0.heap.size ≤ g) : Below w0.heap.size w0 (sortWorldK enc d.sz w g 0 m ys.toArray os) :=
 Below.grown hB (a7g ys) hB.size (fun k hk => by obtain rfl : g = k := Option.some.inj hk; exact hg)
theorem b0r {S : Nat → Prop} {m : Nat} {os : Array Obj} (ys : List α) (hS : S g ∨ w.heap.size ≤ g) : Kept w (sortWorldK enc d.sz w g 0 m ys.toArray os) S :=
 Kept.a9x (a7g ys) (Kept.refl w S) (fun k hk => by obtain rfl : g = k := Option.some.inj hk; exact hS)
end
section
variable {α : Type}
def a7b (cf : α → α → Int) (x : α) : List α → List α
 | [] => [x]
 | y :: t => if cf x y < 0 then x :: y :: t else y :: a7b cf x t
def a3v (cf : α → α → Int) : List α → List α
 | [] => []
 | x :: t => a7b cf x (a3v cf t)
def a5f (cf : α → α → Int) : List α → Bool
 | [] => true
 | x :: t => t.all (fun y => cf x y != 0) && a5f cf t
structure a4o (cf : α → α → Int) : Prop where
 flip : ∀ x y, cf x y < 0 ↔ 0 < cf y x
 trans : ∀ x y z, cf x y ≤ 0 → cf y z ≤ 0 → cf x z ≤ 0
theorem a4o.zero {cf : α → α → Int} (h : a4o cf) {x y : α} (e : cf x y = 0) : cf y x = 0 := by
 have a := (h.flip x y).2
 have b := (h.flip y x).1
 have c := (h.flip y x).2
 have d := (h.flip x y).1
 omega
theorem a7c (cf : α → α → Int) (x : α) : ∀ l : List α, (a7b cf x l).Perm (x :: l)
 | [] => List.Perm.refl _
 | y :: t => by
  unfold a7b
  split
  ·exact List.Perm.refl _
  ·exact ((a7c cf x t).cons y).trans (List.Perm.swap x y t)
theorem a4p (cf : α → α → Int) : ∀ l : List α, (a3v cf l).Perm l
 | [] => List.Perm.refl _
 | x :: t => (a7c cf x _).trans ((a4p cf t).cons x)
theorem a7h (cf : α → α → Int) (l : List α) : (a3v cf l).length = l.length := (a4p cf l).length_eq
theorem a7s {cf : α → α → Int} (h : a4o cf) (x : α) : ∀ {l : List α}, l.Pairwise (fun a b => cf a b ≤ 0) → (a7b cf x l).Pairwise (fun a b => cf a b ≤ 0)
 | [], _ => by simp [a7b]
 | y :: t, hl => by
  obtain ⟨h1, h2⟩ := List.pairwise_cons.1 hl
  unfold a7b
  split
  ·rename_i c
   refine List.pairwise_cons.2 ⟨fun z hz => ?_, hl⟩
   rcases List.mem_cons.1 hz with rfl | hz
   ·omega
   ·exact h.trans x y z (by omega) (h1 z hz)
  ·rename_i c
   refine List.pairwise_cons.2 ⟨fun z hz => ?_, a7s h x h2⟩
   rcases List.mem_cons.1 ((a7c cf x t).subset hz) with rfl | hz
   ·have := (h.flip y z).2
    have := (h.flip z y).1
    have := (h.flip z y).2
    omega
   ·exact h1 z hz
theorem a5a {cf : α → α → Int} (h : a4o cf) : ∀ l : List α, (a3v cf l).Pairwise (fun a b => cf a b ≤ 0)
 | [] => List.Pairwise.nil
 | x :: t => a7s h x (a5a h t)
theorem a8c {cf : α → α → Int} (h : a4o cf) : ∀ {l : List α}, a5f cf l = true → ∀ a ∈ l, ∀ b ∈ l, cf a b = 0 → a = b
 | [], _, a, ha, _, _, _ => by simp at ha
 | x :: t, hl, a, ha, b, hb, e => by
  unfold a5f at hl
  rw [Bool.and_eq_true, List.all_eq_true] at hl
  obtain ⟨h1, h2⟩ := hl
  rcases List.mem_cons.1 ha with e1 | ha1
  ·rcases List.mem_cons.1 hb with e2 | hb1
   ·rw [e1, e2]
   ·have := h1 b hb1
    rw [← e1] at this
    simp [e] at this
  ·rcases List.mem_cons.1 hb with e2 | hb1
   ·have := h1 a ha1
    rw [← e2] at this
    simp [h.zero e] at this
   ·exact a8c h h2 a ha1 b hb1 e
theorem a7i {cf : α → α → Int} (h : a4o cf) {l l' : List α} (ha : a5f cf l = true) (hp : l'.Perm l) (hs : l'.Pairwise (fun a b => cf a b ≤ 0)) : l' = a3v cf l := by
 refine List.Perm.eq_of_pairwise (le := fun a b => cf a b ≤ 0) (fun a b h1 h2 h3 h4 => ?_) hs (a5a h l) (hp.trans (a4p cf l).symm)
 have e : cf a b = 0 := by
  have := (h.flip b a).1
  have := (h.flip a b).1
  omega
 exact a8c h ha a (hp.subset h1) b ((a4p cf l).subset h2) e
end
section
variable {α : Type} {cf : α → α → Int}
theorem a4o.swo (h : a4o cf) : SWO (ltOf cf) where
 irrefl x := by
  have := h.flip x x
  simp only [ltOf, decide_eq_false_iff_not]
  omega
 trans x y z h1 h2 := by
  simp only [ltOf, decide_eq_true_eq] at *
  have a := h.trans x y z (by omega) (by omega)
  have b := (h.flip y z).1 h2
  rcases Int.lt_or_le (cf x z) 0 with c | c
  ·exact c
  ·have e := h.zero (x := x) (y := z) (by omega)
   have := h.trans z x y (by omega) (by omega)
   omega
 ntrans x y z h1 h2 := by
  simp only [ltOf, decide_eq_false_iff_not] at *
  have a := h.flip y x
  have b := h.flip z y
  have c := h.flip x z
  have d := h.flip x y
  have f := h.flip y z
  have := h.trans z y x (by omega) (by omega)
  omega
theorem b2v [Inhabited α] (h : a4o cf) {l : List α} {d' : Array α} (hP : PermIn 0 l.toArray.size l.toArray d') (hS : SortedIn (ltOf cf) 0 l.toArray.size d') (ha : a5f cf l = true) : d' = (a3v cf l).toArray := by
 obtain ⟨hsz, _, hperm⟩ := hP
 have e1 : d'.extract 0 l.toArray.size = d' := by rw [← hsz]; exact Array.extract_size
 rw [e1, Array.extract_size] at hperm
 have hs : d'.toList.Pairwise (fun a b => cf a b ≤ 0) := by
  rw [List.pairwise_iff_getElem]
  intro i j hi hj hij
  have hi' : i < d'.size := by simpa using hi
  have hj' : j < d'.size := by simpa using hj
  have := hS i j (Nat.zero_le _) hij (by rw [← hsz]; exact hj')
  rw [getElem!_pos d' i hi', getElem!_pos d' j hj'] at this
  simp only [ltOf, decide_eq_false_iff_not] at this
  have a := h.flip d'[j] d'[i]
  have b := h.flip d'[i] d'[j]
  simp only [Array.getElem_toList]
  omega
 have := a7i h ha hperm hs
 rw [← this]
end
def Grew (w W : World) : Prop := ∃ q os, W = grow (w.drewN q) os
theorem Grew.refl (w : World) : Grew w w := ⟨0, #[], by simp [grow, World.drewN]⟩
theorem Grew.drewN {w W : World} (h : Grew w W) (n : Nat) : Grew w (W.drewN n) := by
 obtain ⟨q, os, rfl⟩ := h
 exact ⟨q + n, os, by simp [grow, World.drewN, Nat.add_assoc]⟩
theorem Grew.drew {w W : World} (h : Grew w W) : Grew w W.drew := h.drewN 1
theorem Grew.alloc {w W W2 : World} {o : Obj} (h : Grew w W) (e : W2 = W.alloc o) : Grew w W2 := by
 obtain ⟨q, os, rfl⟩ := h
 subst e
 exact ⟨q, os ++ #[o], by rw [alloc_eq_grow, grow_grow]⟩
section
variable {P : Program} {ops : Array Oper} {rest : List Oper} {o : Oper} {a : Act} {Q : Exit → Act → World → Prop}
theorem b3y {W : World} (N : Tmp) (cs : Array Value) (t : TypeId)
  (h : ∀ g, g = W.heap.size → ∀ w1, w1.heap[g]? = some (.cells cs t (0, 0)) → Below W.heap.size W w1 → w1 = W.alloc (.cells cs t (0, 0)) → wpList P ops Q rest (a.put o.dst (.pointer (some ⟨g, 0, none⟩))) w1)
  (hd : o.dst = some N := by rfl) (hgd : o.guard = none := by rfl)
  (hrun : (execOp a.eval o).run P W = .ok (.value (.pointer (some ⟨W.heap.size, 0, none⟩))) (W.alloc (.cells cs t (0, 0))) := by first | (go_simp; done) | (go_simp; rfl)) : wpList P ops Q (o :: rest) a W :=
 Kd.a5q hgd hrun (h _ rfl _ (a8s W _) (la_ (Below.refl _ _) _) rfl)
variable {α : Type} {Kc : Act → World → Prop}
theorem b0s (d : Kd α) {W : World} (base e : Nat) (hw : Region.wanted o (yielded ops a.tmps) = true) {N : Tmp} (_hd : o.dst = some N) {xs : List α} {inner : List Value} {ok okp : Nat → Prop}
  (hrun : (execOp a.eval o).run P W = .ok (.value (.slice (some ⟨W.heap.size, 0, none⟩) xs.length xs.length)) (W.alloc (.cells inner.toArray e)))
  (hrep : Reps (d.M W base okp) d.sz xs inner) (hok : ∀ k, okp k → ok k) (hfresh : ok W.heap.size) (hbase : base ≤ W.heap.size) (hm : xs.length ≤ 9223372036854775807)
  (h : ∀ v1 w1, d.R e w1 base ok v1 xs → Below W.heap.size W w1 → w1 = W.alloc (.cells inner.toArray e) → Kc (a.put o.dst v1) w1) : if Region.wanted o (yielded ops a.tmps) = true then Oper.wp P o a W Kc Q else Kc (a.put o.dst undef) W := by
 refine a8j hw hrun (h _ _ ⟨fun k hk => ?_, inner, ?_, ?_⟩ (la_ (Below.refl _ _) _) rfl)
 ·have : W.heap.size = k := by simpa [Value.ownBlock] using hk
  subst this
  exact hfresh
 ·have h2 := World.ownsRow_lit (base := base) (e := e) (size := d.sz) W inner.toArray xs.length hbase (by simpa [maxLen] using hm) (by simpa using hrep.1)
  simpa using h2
 ·refine hrep.imp_ (fun p c hp => d.M_mono (fun k hk => ⟨hok k hk.1, fun he => ?_⟩) (Kd.a8t (d.M_bound hp) (la_ (Below.refl _ _) _)))
  have h3 : k = W.heap.size := by simpa [Value.ownBlock] using he
  have := hk.2.2.1
  omega
end
end Go.Proofs.Ytfbgkcadnmcakaa.Given
