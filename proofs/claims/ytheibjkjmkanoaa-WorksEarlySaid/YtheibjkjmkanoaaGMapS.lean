/- A map whose elements are slices that only are read: what the map holds is told beside the lists that its slices lead to. Conditions: as each theorem states; nothing is ever deleted. -/
import Derived.WalkMore
import Derived.Test.YtheibjkjmkanoaaGMap
namespace Go.Proofs.Ytheibjkjmkanoaa.Given
open Go.RowKit Go.MapKept Go.Proofs.YtheibjkjmkanoaaW.PrintWords Go.Proofs.YtheibjkjmkanoaaW.PrintLast
set_option linter.unusedVariables false
set_option linter.unusedSimpArgs false
section
variable {α : Type}
def a5n (M : List (Int × (List α × Value))) : List (Int × List α) := M.map fun e => (e.1, e.2.1)
def a3q (M : List (Int × List α)) (k : Int) : List α := (a3i M k).getD []
def b6n (M : List (Int × (List α × Value))) (k : Int) : Value := ((a3i M k).map (·.2)).getD (.slice none 0 0)
theorem b1s (k : Int) : ∀ M : List (Int × (List α × Value)), a3i (a5n M) k = (a3i M k).map (·.1)
 | [] => rfl
 | p :: t => by
  show (if p.1 = k then some p.2.1 else a3i (a5n t) k) = ((if p.1 = k then some p.2 else a3i t k).map (·.1))
  rw [b1s k t]
  split <;> rfl
def a5a (d : Kd α) (w : World) (M : List (Int × (List α × Value))) : Prop := ∀ e ∈ M, ∃ A c, e.2.2 = .slice A e.2.1.length c ∧ e.2.1.length ≤ c ∧ Kd.C d w A e.2.1.length e.2.1
theorem a5a.nil (d : Kd α) (w : World) : a5a d w [] := fun e h => by simp at h
theorem b4d {β : Type} {k : Int} {v : β} {e : Int × β} : ∀ {M : List (Int × β)}, e ∈ mput M k v → e.2 = v ∨ e ∈ M
 | [], h => by
  rw [mput, List.mem_singleton] at h
  exact .inl (by rw [h])
 | p :: t, h => by
  rw [mput] at h
  split at h
  ·rcases List.mem_cons.1 h with q | q
   ·exact .inl (by rw [q])
   ·exact .inr (List.mem_cons_of_mem _ q)
  ·rcases List.mem_cons.1 h with q | q
   ·exact .inr (by rw [q]; exact List.mem_cons_self)
   ·rcases b4d q with r | r
    ·exact .inl r
    ·exact .inr (List.mem_cons_of_mem _ r)
theorem a5a.put {d : Kd α} {w : World} {M : List (Int × (List α × Value))} (h : a5a d w M) (k : Int) {l : List α} {A : Option Addr} {c : Nat} (hc : l.length ≤ c) (hr : Kd.C d w A l.length l) : a5a d w (mput M k (l, .slice A l.length c)) := fun e he => by
 rcases b4d he with q | q
 ·rw [q]
  exact ⟨A, c, rfl, hc, hr⟩
 ·exact h e q
theorem b3l {β : Type} {k : Int} {v : β} : ∀ {M : List (Int × β)}, a3i M k = some v → ∃ q, (q, v) ∈ M
 | [], h => by simp [a3i] at h
 | p :: t, h => by
  rw [a3i] at h
  split at h
  ·obtain rfl := si_ h
   exact ⟨p.1, List.mem_cons_self⟩
  ·obtain ⟨q, hq⟩ := b3l h
   exact ⟨q, List.mem_cons_of_mem _ hq⟩
theorem a5a.look {d : Kd α} {w : World} {M : List (Int × (List α × Value))} (h : a5a d w M) (k : Int) : ∃ A c, b6n M k = .slice A (a3q (a5n M) k).length c ∧ (a3q (a5n M) k).length ≤ c ∧ Kd.C d w A (a3q (a5n M) k).length (a3q (a5n M) k) := by
 unfold b6n a3q
 rw [b1s]
 cases e : a3i M k with
 | none => exact ⟨none, 0, rfl, Nat.le_refl _, ⟨rfl, by simp, fun h => by simp at h⟩⟩
 | some v =>
  obtain ⟨q, hq⟩ := b3l e
  exact h _ hq
end
section
variable {P : Program} {ops : Array Oper} {rest : List Oper} {o : Oper} {a : Act} {Q : Exit → Act → World → Prop}
theorem a6z {α : Type} {W : World} (hgd : o.guard = none) {N : Tmp} (hd : o.dst = some N) {T K E : TypeId} {m x : Operand} (ho : o.op = .lookup T m x false) {g : Nat} {M : List (Int × (List α × Value))} {k : Int} {v : Value}
  (hT : P.underlying T = some (.map K E)) (hK : P.underlying K = some (.int .i64)) (hz : (zeroValue E).run P W = .ok (.slice none 0 0) W) (hb : W.heap[g]? = some (a1i (fun e : List α × Value => e.2) M)) (hm : a.eval m = .map (some g)) (hx : a.eval x = .int .i64 k) (hv : b6n M k = v)
  (h : wpList P ops Q rest (a.put o.dst v) W) : wpList P ops Q (o :: rest) a W := by
 refine a7x hgd hd ho hT hK hz hb hm hx ?_
 rw [if_neg (by simp)]
 subst hv
 exact h
end
section
variable {P : Program} {ops : Array Oper} {o : Oper} {a : Act} {Q : Exit → Act → World → Prop} {Kc : Act → World → Prop}
theorem b1a {W : World} (hw : Region.wanted o (yielded ops a.tmps) = true) {N : Tmp} (_hd : o.dst = some N) {T K E : TypeId} {m x : Operand} (ho : o.op = .lookup T m x false) {g : Nat} {M : List (Int × Int)} {k : Int}
  (hT : P.underlying T = some (.map K E)) (hK : P.underlying K = some (.int .i64)) (hz : (zeroValue E).run P W = .ok (.int .i64 0) W) (hb : W.heap[g]? = some (a1i (Value.int .i64) M)) (hm : a.eval m = .map (some g)) (hx : a.eval x = .int .i64 k)
  (h : Kc (a.put o.dst (.int .i64 (a1z M k))) W) : if Region.wanted o (yielded ops a.tmps) = true then Oper.wp P o a W Kc Q else Kc (a.put o.dst undef) W := by
 have e : ((a3i M k).map (Value.int .i64)).getD (.int .i64 0) = .int .i64 (a1z M k) := by unfold a1z; cases a3i M k <;> rfl
 have hrun : (execOp a.eval o).run P W = .ok (.value (.int .i64 (a1z M k))) W := by
  have h1 := b3j hT hK hz hb k false
  rw [if_neg (by simp), e] at h1
  simp [execOp, ho, hm, hx, h1, Result.andThen]
 exact a9j hw hrun h
end
theorem b4e {P : Program} {fn : Func} {R : Ending → World → Prop} {c : Code} {a : Act} {w : World} (h : c.wp P (bodyPost P fn R) a w) : (Code.scope c).wp P (bodyPost P fn R) a w := by
 refine wp_scope_straight ?_
 have e : Exit.noGoto (bodyPost P fn R) = bodyPost P fn R := by
  funext e a w
  cases e <;> rfl
 rw [e]
 exact h
section
variable {P : Program} {ops : Array Oper} {o : Oper} {a : Act} {Q : Exit → Act → World → Prop} {Kc : Act → World → Prop}
theorem b3m {α : Type} {enc : α → Value} {W : World} (hw : Region.wanted o (yielded ops a.tmps) = true) {T K E : TypeId} {m x v : Operand} (ho : o.op = .mapUpdate T m x v) {g : Nat} {M : List (Int × α)} {k : Int} {y : α}
  (hT : P.underlying T = some (.map K E)) (hK : P.underlying K = some (.int .i64)) (hb : W.heap[g]? = some (a1i enc M)) (hm : a.eval m = .map (some g)) (hx : a.eval x = .int .i64 k) (hv : a.eval v = enc y)
  (h : ∀ w1, w1.heap[g]? = some (a1i enc (mput M k y)) → W.grownBy w1 (some g) → Kc (a.put o.dst undef) w1) : if Region.wanted o (yielded ops a.tmps) = true then Oper.wp P o a W Kc Q else Kc (a.put o.dst undef) W := by
 have hlt := a3v hb
 rw [if_pos hw]
 unfold Oper.wp
 simp [execOp, ho, hm, hx, hv, b8r hT hK hb k y, Result.andThen]
 refine h _ ?_ ⟨rfl, rfl, rfl, by simp, fun i _ hi => ?_⟩
 ·simp [hlt]
 ·have : ¬ g = i := fun e => hi (by rw [e])
  simp [Array.getElem?_setIfInBounds, this]
end
theorem a6e (w : World) : (zeroValue 34).run Try.prog w = .ok (.slice none 0 0) w := by kernel_rfl
end Go.Proofs.Ytheibjkjmkanoaa.Given
