/- Words that the kit's print.sh printed, in a copy without what is not used. Conditions: as_ each theorem states. -/
import Derived.Test.YtheibjkjmkanoaaGMap
import Derived.WalkMore
import Derived.Test.YtheibjkjmkanoaaWTab
import Derived.Test.YtheibjkjmkanoaaWWords
import Derived.Test.YtheibjkjmkanoaaWLast
namespace Go.Proofs.Ytheibjkjmkanoaa.Given
open Go.RowKit Go.MapKept Go.Proofs.YtheibjkjmkanoaaW.PrintWords Go.Proofs.YtheibjkjmkanoaaW.PrintLast
set_option linter.unusedVariables false
set_option linter.unusedSimpArgs false
section
variable {α : Type}
def a5u (M : List (Int × (List α × Value))) : List (Int × List α) := M.map fun e => (e.1, e.2.1)
def a3p (M : List (Int × List α)) (k : Int) : List α := (a3i M k).getD []
def b8b (M : List (Int × (List α × Value))) (k : Int) : Value := ((a3i M k).map (·.2)).getD (.slice none 0 0)
theorem b2z (k : Int) : ∀ M : List (Int × (List α × Value)), a3i (a5u M) k = (a3i M k).map (·.1)
 | [] => rfl
 | p :: t => by
  show (if p.1 = k then some p.2.1 else a3i (a5u t) k) = ((if p.1 = k then some p.2 else a3i t k).map (·.1))
  rw [b2z k t]
  split <;> rfl
def a5a (d : Kd α) (w : World) (M : List (Int × (List α × Value))) : Prop := ∀ e ∈ M, ∃ A c, e.2.2 = .slice A e.2.1.length c ∧ e.2.1.length ≤ c ∧ Kd.C d w A e.2.1.length e.2.1
theorem a5a.nil (d : Kd α) (w : World) : a5a d w [] := fun e h => by simp at h
theorem b5n {β : Type} {k : Int} {v : β} {e : Int × β} : ∀ {M : List (Int × β)}, e ∈ mput M k v → e.2 = v ∨ e ∈ M
 | [], h => by
  rw [mput, List.mem_singleton] at h
  exact .inl (by rw [h])
 | p :: t, h => by
  rw [mput] at h
  split at h
  ·rcases List.mem_cons.1 h with q | q
   ·exact .inl (by rw [q])
   ·exact .inr (List.mem_cons_of_mem _ q)
  ·rcases List.mem_cons.1 h with q | q
   ·exact .inr (by rw [q]; exact List.mem_cons_self)
   ·rcases b5n q with r | r
    ·exact .inl r
    ·exact .inr (List.mem_cons_of_mem _ r)
theorem a5a.put {d : Kd α} {w : World} {M : List (Int × (List α × Value))} (h : a5a d w M) (k : Int) {l : List α} {A : Option Addr} {c : Nat} (hc : l.length ≤ c) (hr : Kd.C d w A l.length l) : a5a d w (mput M k (l, .slice A l.length c)) := fun e he => by
 rcases b5n he with q | q
 ·rw [q]
  exact ⟨A, c, rfl, hc, hr⟩
 ·exact h e q
theorem b4n {β : Type} {k : Int} {v : β} : ∀ {M : List (Int × β)}, a3i M k = some v → ∃ q, (q, v) ∈ M
 | [], h => by simp [a3i] at h
 | p :: t, h => by
  rw [a3i] at h
  split at h
  ·obtain rfl := Option.some.inj h
   exact ⟨p.1, List.mem_cons_self⟩
  ·obtain ⟨q, hq⟩ := b4n h
   exact ⟨q, List.mem_cons_of_mem _ hq⟩
theorem a5a.look {d : Kd α} {w : World} {M : List (Int × (List α × Value))} (h : a5a d w M) (k : Int) : ∃ A c, b8b M k = .slice A (a3p (a5u M) k).length c ∧ (a3p (a5u M) k).length ≤ c ∧ Kd.C d w A (a3p (a5u M) k).length (a3p (a5u M) k) := by
 unfold b8b a3p
 rw [b2z]
 cases e : a3i M k with
 | none => exact ⟨none, 0, rfl, Nat.le_refl _, ⟨rfl, by simp, fun h => by simp at h⟩⟩
 | some v =>
  obtain ⟨q, hq⟩ := b4n e
  exact h _ hq
end
section
variable {P : Program} {ops : Array Oper} {rest : List Oper} {o : Oper} {a : Act} {Q : Exit → Act → World → Prop}
theorem a7b {α : Type} {W : World} (hgd : o.guard = none) {N : Tmp} (hd : o.dst = some N) {T K E : TypeId} {m x : Operand} (ho : o.op = .lookup T m x false) {g : Nat} {M : List (Int × (List α × Value))} {k : Int} {v : Value}
  (hT : P.underlying T = some (.map K E)) (hK : P.underlying K = some (.int .i64)) (hz : (zeroValue E).run P W = .ok (.slice none 0 0) W) (hb : W.heap[g]? = some (a1v (fun e : List α × Value => e.2) M)) (hm : a.eval m = .map (some g)) (hx : a.eval x = .int .i64 k) (hv : b8b M k = v)
  (h : wpList P ops Q rest (a.put o.dst v) W) : wpList P ops Q (o :: rest) a W := by
 refine a8h hgd hd ho hT hK hz hb hm hx ?_
 rw [if_neg (by simp)]
 subst hv
 exact h
end
section
variable {P : Program} {ops : Array Oper} {o : Oper} {a : Act} {Q : Exit → Act → World → Prop} {Kc : Act → World → Prop}
theorem b2g {W : World} (hw : Region.wanted o (yielded ops a.tmps) = true) {N : Tmp} (_hd : o.dst = some N) {T K E : TypeId} {m x : Operand} (ho : o.op = .lookup T m x false) {g : Nat} {M : List (Int × Int)} {k : Int}
  (hT : P.underlying T = some (.map K E)) (hK : P.underlying K = some (.int .i64)) (hz : (zeroValue E).run P W = .ok (.int .i64 0) W) (hb : W.heap[g]? = some (a1v (Value.int .i64) M)) (hm : a.eval m = .map (some g)) (hx : a.eval x = .int .i64 k)
  (h : Kc (a.put o.dst (.int .i64 (a2j M k))) W) : if Region.wanted o (yielded ops a.tmps) = true then Oper.wp P o a W Kc Q else Kc (a.put o.dst undef) W := by
 have e : ((a3i M k).map (Value.int .i64)).getD (.int .i64 0) = .int .i64 (a2j M k) := by unfold a2j; cases a3i M k <;> rfl
 have hrun : (execOp a.eval o).run P W = .ok (.value (.int .i64 (a2j M k))) W := by
  have h1 := b4l hT hK hz hb k false
  rw [if_neg (by simp), e] at h1
  simp [execOp, ho, hm, hx, h1, Result.andThen]
 exact b0m hw hrun h
end
theorem b5o {P : Program} {fn : Func} {R : Ending → World → Prop} {c : Code} {a : Act} {w : World} (h : c.wp P (bodyPost P fn R) a w) : (Code.scope c).wp P (bodyPost P fn R) a w := by
 refine wp_scope_straight ?_
 have e : Exit.noGoto (bodyPost P fn R) = bodyPost P fn R := by
  funext e a w
  cases e <;> rfl
 rw [e]
 exact h
section
variable {P : Program} {ops : Array Oper} {o : Oper} {a : Act} {Q : Exit → Act → World → Prop} {Kc : Act → World → Prop}
theorem b4o {α : Type} {enc : α → Value} {W : World} (hw : Region.wanted o (yielded ops a.tmps) = true) {T K E : TypeId} {m x v : Operand} (ho : o.op = .mapUpdate T m x v) {g : Nat} {M : List (Int × α)} {k : Int} {y : α}
  (hT : P.underlying T = some (.map K E)) (hK : P.underlying K = some (.int .i64)) (hb : W.heap[g]? = some (a1v enc M)) (hm : a.eval m = .map (some g)) (hx : a.eval x = .int .i64 k) (hv : a.eval v = enc y)
  (h : ∀ w1, w1.heap[g]? = some (a1v enc (mput M k y)) → W.grownBy w1 (some g) → Kc (a.put o.dst undef) w1) : if Region.wanted o (yielded ops a.tmps) = true then Oper.wp P o a W Kc Q else Kc (a.put o.dst undef) W := by
 have hlt := a3q hb
 rw [if_pos hw]
 unfold Oper.wp
 simp [execOp, ho, hm, hx, hv, c0q hT hK hb k y, Result.andThen]
 refine h _ ?_ ⟨rfl, rfl, rfl, by simp, fun i _ hi => ?_⟩
 ·simp [hlt]
 ·have : ¬ g = i := fun e => hi (by rw [e])
  simp [Array.getElem?_setIfInBounds, this]
end
theorem a6e (w : World) : (zeroValue 34).run Try.prog w = .ok (.slice none 0 0) w := by kernel_rfl
end Go.Proofs.Ytheibjkjmkanoaa.Given
namespace Go.Proofs.YtheibjkjmkanoaaW.PrintLast
section
variable {P : Program} {ops : Array Oper} {Q : Exit → Act → World → Prop} {md : Region.Mode} {S : World → Prop} {ds : List Nat} {T : Bool × List (List Nat × List Nat)}
end
end Go.Proofs.YtheibjkjmkanoaaW.PrintLast
namespace Go.Proofs.YtheibjkjmkanoaaW.PrintWords
open Go.RowKit
namespace Kd
section
variable {α : Type} {d : Kd α} {e base g o n cap : Nat} {ok okp : Nat → Prop} {w W : World} {v : Value} {xs : List α}
theorem c5c (h : d.Q e w base ok v xs) (hp : 0 < xs.length) : ∃ g o cap, v = .slice (some ⟨g, o, none⟩) xs.length cap ∧ base ≤ g ∧ g < w.heap.size ∧ ∃ cells, w.heap[g]? = some (.cells cells e (0, 0)) := by
 obtain ⟨h0, inner, hq, hr⟩ := h
 rcases hq.2 with ⟨h1, _⟩ | ⟨g, off, cap, cur, rfl, hb, hh, r⟩
 ·omega
 ·exact ⟨g, off * d.sz, cap, rfl, hb, a3q hh, cur, hh⟩
theorem b9i (h : d.Q e W base ok (.slice (some ⟨g, o, none⟩) n cap) xs) (z : α) (i : Int) (h0 : 0 ≤ i) (h1 : i < n) :
  ∃ c, c.length = d.sz ∧ d.M W base (fun k => ok k ∧ k ≠ g) (xs.getD i.toNat z) c ∧ (∀ j u, c[j]? = some u → W.cell? ⟨g, o + i.toNat * d.sz + j, none⟩ = some u) ∧ ∀ j, W.frozen? ⟨g, o + i.toNat * d.sz + j, none⟩ = false := by
 obtain ⟨hn, hnc, hC⟩ := b2k h
 obtain ⟨_, inner, ho, hr⟩ := h
 have hil : i.toNat < xs.length := by omega
 have hseg : i.toNat * d.sz + d.sz ≤ inner.length := by rw [hr.1, ← Nat.succ_mul]; exact Nat.mul_le_mul_right _ hil
 have hM := hr.2 i.toNat _ (List.getElem?_eq_getElem hil)
 refine ⟨(inner.drop (i.toNat * d.sz)).take d.sz, by rw [List.length_take, List.length_drop]; omega, ?_, fun j u hu => ?_, fun j => ?_⟩
 ·rw [List.getD_eq_getElem?_getD, List.getElem?_eq_getElem hil]
  exact d.M_mono (fun k hk => ⟨hk.1, fun he => hk.2 (by rw [he]; simp [Value.ownBlock])⟩) hM
 ·rw [List.getElem?_take] at hu
  split at hu
  ·rw [List.getElem?_drop] at hu
   subst hn
   obtain ⟨ad, he, hc⟩ := b6w ho (by omega)
   injection he with he
   subst he
   have := hc _ u hu
   rwa [b8z, ← Nat.add_assoc] at this
  ·cases hu
 ·obtain ⟨_, cells, hc⟩ := c2b ho g (by simp [Value.ownBlock])
  exact bf_ hc _
theorem c4i (h : d.Q e W base ok (.slice (some ⟨g, o, none⟩) n cap) xs) (i : Int) (h0 : 0 ≤ i) (h1 : i < n) {c seg : List Value} {j : Nat} (hcl : c.length = d.sz) (hcc : ∀ j u, c[j]? = some u → W.cell? ⟨g, o + i.toNat * d.sz + j, none⟩ = some u)
  (hj : j + seg.length ≤ d.sz) {x' : α} (hM : d.M W base okp x' (c.take j ++ seg ++ c.drop (j + seg.length))) (hokp : ∀ k, okp k → ok k ∧ k ≠ g) :
  d.Q e (W.setCells g (o + i.toNat * d.sz + j) seg) base ok (.slice (some ⟨g, o, none⟩) n cap) (xs.set i.toNat x') ∧ W.grownBy (W.setCells g (o + i.toNat * d.sz + j) seg) (some g) := by
 obtain ⟨hn, hnc, _⟩ := b2k h
 obtain ⟨hok, inner, ho, hr⟩ := h
 have hil : i.toNat < xs.length := by omega
 have hseg : i.toNat * d.sz + d.sz ≤ inner.length := by rw [hr.1, ← Nat.succ_mul]; exact Nat.mul_le_mul_right _ hil
 have hin : inner.length = n * d.sz := by rw [hr.1, hn]
 obtain ⟨ho1, ho2⟩ := ho
 rcases ho2 with ⟨hz, _⟩ | ⟨g', off, cap', cur, hv, hb, hh, hnc', hcm, hcs, ht⟩
 ·omega
 injection hv with ha _ hc
 injection ha with ha
 injection ha with hg hoff
 subst hg; subst hc; subst hoff
 have hcap : n * d.sz ≤ cap * d.sz := Nat.mul_le_mul_right _ hnc
 have hcs' : cur.size = off * d.sz + cap * d.sz := by rw [hcs, Nat.add_mul]
 have hfit : off * d.sz + i.toNat * d.sz + j + seg.length ≤ cur.size := by omega
 obtain ⟨cur', h3, h4, h5⟩ := a9e seg (off * d.sz + i.toNat * d.sz + j) W cur hh hfit
 obtain ⟨s1, s2, s3, s4⟩ := a8v g seg (off * d.sz + i.toNat * d.sz + j) W
 have hfar : ∀ k, k ≠ g → (W.setCells g (off * d.sz + i.toNat * d.sz + j) seg).heap[k]? = W.heap[k]? := fun k hk => a9d seg _ k hk
 rw [← hn] at ht
 have hat : ∀ q, q < n * d.sz → cur.toList[off * d.sz + q]? = inner[q]? := by
  intro q hq
  rw [← ht, List.getElem?_take, if_pos hq, List.getElem?_drop]
 have hcin : ∀ q, q < d.sz → c[q]? = inner[i.toNat * d.sz + q]? := by
  intro q hq
  have hq' : q < c.length := by omega
  have h6 := hcc q _ (List.getElem?_eq_getElem hq')
  rw [cell_of_row W g _ cur e (0, 0) hh] at h6
  rw [List.getElem?_eq_getElem hq', ← h6, ← hat _ (by omega), Array.getElem?_toList, Nat.add_assoc]
 refine ⟨⟨hok, inner.take (i.toNat * d.sz + j) ++ seg ++ inner.drop (i.toNat * d.sz + j + seg.length), ⟨?_, .inr ⟨g, off, cap, cur', by rw [List.length_set, hn], hb, h3, by rw [List.length_set, ← hn]; exact hnc, hcm, by rw [h4, hcs], ?_⟩⟩, ?_⟩,
  ⟨s1, s2, s3, by rw [s4]; exact Nat.le_refl _, fun k _ hk => hfar k (fun he => hk (by rw [he]))⟩⟩
 ·rw [List.length_set]
  simp only [List.length_append, List.length_take, List.length_drop]
  rw [hr.1] at hseg ⊢
  omega
 ·rw [List.length_set, ← hn]
  apply List.ext_getElem?
  intro q
  rw [List.getElem?_take, List.getElem?_drop, h5]
  rw [a6x cur.toList seg (off * d.sz + i.toNat * d.sz + j) (by rw [Array.length_toList]; omega) (off * d.sz + q), a6x inner seg (i.toNat * d.sz + j) (by omega) q]
  by_cases hq : q < n * d.sz
  ·rw [if_pos hq]
   by_cases hq1 : q < i.toNat * d.sz + j
   ·rw [if_pos (by omega), if_pos hq1, hat q hq]
   ·rw [if_neg (by omega), if_neg hq1]
    by_cases hq2 : q < i.toNat * d.sz + j + seg.length
    ·rw [if_pos (by omega), if_pos hq2]
     congr 1
     omega
    ·rw [if_neg (by omega), if_neg hq2, hat q hq]
  ·rw [if_neg hq, if_neg (by omega), if_neg (by omega), List.getElem?_eq_none (by omega)]
 ·refine ⟨?_, fun m p hm => ?_⟩
  ·rw [List.length_set]
   simp only [List.length_append, List.length_take, List.length_drop]
   rw [hr.1] at hseg ⊢
   omega
  ·have hml : m < xs.length := by
    have := (List.getElem?_eq_some_iff.1 hm).1
    rwa [List.length_set] at this
   have hmfit : m * d.sz + d.sz ≤ inner.length := by rw [hr.1, ← Nat.succ_mul]; exact Nat.mul_le_mul_right _ hml
   have hgo : some g = (Value.slice (some ⟨g, off * d.sz, none⟩) n cap).ownBlock := by simp [Value.ownBlock]
   by_cases hmi : m = i.toNat
   ·subst hmi
    rw [List.getElem?_set_self (by omega)] at hm
    injection hm with hm
    subst hm
    have hcells : ((inner.take (i.toNat * d.sz + j) ++ seg ++ inner.drop (i.toNat * d.sz + j + seg.length)).drop (i.toNat * d.sz)).take d.sz = c.take j ++ seg ++ c.drop (j + seg.length) := by
     apply List.ext_getElem?
     intro q
     rw [List.getElem?_take, List.getElem?_drop, a6x inner seg _ (by omega), a6x c seg j (by omega) q]
     by_cases hq : q < d.sz
     ·rw [if_pos hq, hcin q hq]
      by_cases hq1 : q < j
      ·rw [if_pos (by omega), if_pos hq1]
      ·rw [if_neg (by omega), if_neg hq1]
       by_cases hq2 : q < j + seg.length
       ·rw [if_pos (by omega), if_pos hq2]
        congr 1
        omega
       ·rw [if_neg (by omega), if_neg hq2]
     ·rw [if_neg hq, if_neg (by omega), if_neg (by omega), List.getElem?_eq_none (by omega)]
    rw [hcells]
    refine d.M_mono (fun k hk => ?_) (d.M_move (w1 := W.setCells g (off * d.sz + i.toNat * d.sz + j) seg) (fun k hk => hfar k (hokp k hk).2) hM)
    exact ⟨(hokp k hk).1, fun he => (hokp k hk).2 (by rw [← hgo] at he; injection he)⟩
   ·rw [List.getElem?_set_ne (by omega)] at hm
    have hold := hr.2 m p hm
    have hcells : ((inner.take (i.toNat * d.sz + j) ++ seg ++ inner.drop (i.toNat * d.sz + j + seg.length)).drop (m * d.sz)).take d.sz = (inner.drop (m * d.sz)).take d.sz := by
     apply List.ext_getElem?
     intro q
     rw [List.getElem?_take, List.getElem?_take, List.getElem?_drop, List.getElem?_drop, a6x inner seg _ (by omega)]
     by_cases hq : q < d.sz
     ·rw [if_pos hq, if_pos hq]
      rcases Nat.lt_or_gt_of_ne hmi with hlt | hgt
      ·have : m * d.sz + d.sz ≤ i.toNat * d.sz := by rw [← Nat.succ_mul]; exact Nat.mul_le_mul_right _ hlt
       rw [if_pos (by omega)]
      ·have : i.toNat * d.sz + d.sz ≤ m * d.sz := by rw [← Nat.succ_mul]; exact Nat.mul_le_mul_right _ hgt
       rw [if_neg (by omega), if_neg (by omega)]
     ·rw [if_neg hq, if_neg hq]
    rw [hcells]
    refine d.M_move (fun k hk => hfar k (fun he => hk.2 (by rw [he]; exact hgo))) hold
end
section
variable {α : Type} {enc : α → Value} {h1 : ∀ x, (enc x).oneCell' = true} {e base g o n cap : Nat} {ok : Nat → Prop} {W : World} {xs : List α}
theorem c5d (d : α) (h : (scalar enc h1).Q e W base ok (.slice (some ⟨g, o, none⟩) n cap) xs) (i : Int) (h0 : 0 ≤ i) (hi : i < n) : W.cell? ⟨g, o + i.toNat, none⟩ = some (enc (rdOf d xs i)) ∧ W.frozen? ⟨g, o + i.toNat, none⟩ = false := by
 obtain ⟨c, _, hM, hcc, hf⟩ := b9i h d i h0 hi
 have hM' : c = [enc (xs.getD i.toNat d)] := hM
 subst hM'
 have h2 := hcc 0 _ rfl
 have h3 := hf 0
 rw [show (scalar enc h1).sz = 1 from rfl, Nat.mul_one, Nat.add_zero] at h2 h3
 exact ⟨h2, h3⟩
theorem c5e (h : (scalar enc h1).Q e W base ok (.slice (some ⟨g, o, none⟩) n cap) xs) (i : Int) (h0 : 0 ≤ i) (hi : i < n) (x : α) : (scalar enc h1).Q e (W.setCell ⟨g, o + i.toNat, none⟩ (enc x)) base ok (.slice (some ⟨g, o, none⟩) n cap) (xs.set i.toNat x) ∧ W.grownBy (W.setCell ⟨g, o + i.toNat, none⟩ (enc x)) (some g) := by
 have hp : 0 < xs.length := by have := (b2k h).1; omega
 obtain ⟨c, hcl, _, hcc, _⟩ := b9i h (xs[0]'hp) i h0 hi
 have h2 := c4i h i h0 hi (c := c) (seg := [enc x]) (j := 0) (okp := fun _ => False) (x' := x) hcl hcc (Nat.le_refl 1) (by
  have hl : c.length = 1 := hcl
  show c.take 0 ++ [enc x] ++ c.drop (0 + 1) = [enc x]
  rw [List.drop_eq_nil_of_le (by omega)]
  rfl) (fun _ hk => hk.elim)
 rw [show (scalar enc h1).sz = 1 from rfl, Nat.mul_one, Nat.add_zero] at h2
 exact h2
end
end Kd
end Go.Proofs.YtheibjkjmkanoaaW.PrintWords
