/- What works.open fills: a map from the trades' numbers to the slices that the trades hold, told by the trades' places. Conditions: as each theorem states. -/
import Derived.Test.YtheibjkjmkanoaaGMapS
import Derived.Test.YtheibjkjmkanoaaPx0
namespace Go.Proofs.Ytheibjkjmkanoaa.Given
open Go.RowKit Go.MapKept Go.Proofs.YtheibjkjmkanoaaW.PrintWords Go.Proofs.YtheibjkjmkanoaaW.PrintLast Go.Proofs.Ytheibjkjmkanoaa.Px
set_option linter.unusedVariables false
set_option linter.unusedSimpArgs false
def trV (w : World) (A : Option Addr) (l : List S58) (i : Int) : Value :=
 if i.toNat < l.length then (match A with
  | some ad => (w.cell? ⟨(ad.add (i.toNat * 2)).block, (ad.add (i.toNat * 2)).off + 1, none⟩).getD (.slice none 0 0)
  | none => .slice none 0 0)
 else .slice none 0 0
def a4s (l : List S58) (M : List (Int × Int)) : List (Int × List S56) := M.map fun e => (e.1, (a1l l e.2).f1)
def ixgh (l : List S58) (V : Int → Value) (M : List (Int × Int)) : List (Int × (List S56 × Value)) := M.map fun e => (e.1, ((a1l l e.2).f1, V e.2))
theorem b4k (l : List S58) (V : Int → Value) : ∀ (M : List (Int × Int)) (j : Nat), a5l (fun e_ : List S56 × Value => e_.2) (ixgh l V M) j = a5l V M j
 | [], _ => rfl
 | p :: t, j => by
  show ({ key := .int .i64 p.1, val := V p.2, born := j } : MapEntry) :: a5l _ (ixgh l V t) (j + 1) = { key := .int .i64 p.1, val := V p.2, born := j } :: a5l V t (j + 1)
  rw [b4k l V t (j + 1)]
theorem b4l (l : List S58) (V : Int → Value) (M : List (Int × Int)) : a1i (fun e_ : List S56 × Value => e_.2) (ixgh l V M) = a1i V M := by
 unfold a1i
 rw [b4k, show (ixgh l V M).length = M.length by simp [ixgh]]
theorem b2u (l : List S58) (V : Int → Value) (M : List (Int × Int)) : a5n (ixgh l V M) = a4s l M := by
 simp [a5n, ixgh, a4s, Function.comp_def]
theorem b5o (l : List S58) (k : Int) : ∀ M : List (Int × Int), a3i (a4s l M) k = (a3i M k).map fun i => (a1l l i).f1
 | [] => rfl
 | p :: t => by
  show (if p.1 = k then some (a1l l p.2).f1 else a3i (a4s l t) k) = ((if p.1 = k then some p.2 else a3i t k).map fun i => (a1l l i).f1)
  rw [b5o l k t]
  split <;> rfl
theorem c0m {w W : World} {ad : Addr} {l : List S58} (hC : Kd.C k58 w (some ad) l.length l) (hB : Below w.heap.size w W) {i : Int} (h0 : 0 ≤ i) (h1 : i < l.length) {v : Value}
  (hx : W.cell? ⟨(ad.add (i.toNat * 2)).block, (ad.add (i.toNat * 2)).off + 1, none⟩ = some v) : trV w (some ad) l i = v := by
 obtain ⟨ad2, A1, c1, e, hx0, hx1, _, _⟩ := a6u hC i h0 h1
 obtain rfl : ad = ad2 := si_ e
 have h2 := (hB.cell (World.block_lt_of_cell? _ _ hx1)).trans hx1
 have h3 := si_ (hx.symm.trans h2)
 unfold trV
 rw [if_pos (by omega)]
 show (w.cell? _).getD _ = v
 rw [hx1, h3]
 rfl
theorem c0n {w : World} {A : Option Addr} {l : List S58} (hC : Kd.C k58 w A l.length l) (i : Int) : ∃ A2 c, trV w A l i = .slice A2 (a1l l i).f1.length c ∧ (a1l l i).f1.length ≤ c ∧ Kd.C k56 w A2 (a1l l i).f1.length (a1l l i).f1 := by
 by_cases h : i.toNat < l.length
 ·obtain ⟨ad, A1, c1, rfl, hx0, hx1, h1, h2⟩ := a6u hC (i.toNat : Int) (by omega) (by omega)
  have e : a1l l (i.toNat : Int) = a1l l i := by unfold a1l; rw [Int.toNat_natCast]
  rw [e] at hx1 h1 h2
  refine ⟨A1, c1, ?_, h1, h2⟩
  unfold trV
  rw [if_pos h]
  show (w.cell? _).getD _ = _
  rw [Int.toNat_natCast] at hx1
  rw [hx1]
  rfl
 ·have e : a1l l i = z58 := by
   unfold a1l
   rw [List.getD_eq_getElem?_getD, List.getElem?_eq_none (by omega)]
   rfl
  rw [e]
  refine ⟨none, 0, ?_, Nat.le_refl _, ⟨rfl, by simp [z58], fun h => by simp [z58] at h⟩⟩
  unfold trV
  rw [if_neg h]
  rfl
theorem b2v {w : World} {A : Option Addr} {l : List S58} {V : Int → Value} (hV : ∀ i, V i = trV w A l i) (hC : Kd.C k58 w A l.length l) (M : List (Int × Int)) : a5a k56 w (ixgh l V M) := fun e he => by
 obtain ⟨p, _, rfl⟩ := List.mem_map.1 he
 obtain ⟨A2, c, h1, h2, h3⟩ := c0n hC p.2
 exact ⟨A2, c, (hV _).trans h1, h2, h3⟩
theorem b7u {w W : World} {A : Option Addr} {l : List S58} (hC : Kd.C k58 w A l.length l) (hB : Below w.heap.size w W) (i : Int) : trV W A l i = trV w A l i := by
 unfold trV
 split
 ·rename_i h
  obtain ⟨ad, A1, c1, rfl, hx0, hx1, h1, h2⟩ := a6u hC (i.toNat : Int) (by omega) (by omega)
  rw [Int.toNat_natCast] at hx1
  have h2 := (hB.cell (World.block_lt_of_cell? _ _ hx1)).trans hx1
  show (W.cell? _).getD _ = (w.cell? _).getD _
  rw [hx1, h2]
 ·rfl
def b8x (V : Int → Value) (v : Value) (b : Bool) (M1 M2 : List (Int × Int)) (w : World) (e : Ending) (w' : World) : Prop :=
 ∃ (Aq : Option Addr) (nq cq : Nat) (m1 m2 : Option Nat), e = .returned (.tuple #[.agg #[.slice Aq nq cq, .map m1, .map m2], .bool b]) ∧
  (b = true → .slice Aq nq cq = v ∧ ∃ g1 g2 : Nat, m1 = some g1 ∧ m2 = some g2 ∧ w.heap.size ≤ g1 ∧ w.heap.size ≤ g2 ∧ g1 ≠ g2 ∧ w'.heap[g1]? = some (a1i (Value.int .i64) M1) ∧ w'.heap[g2]? = some (a1i V M2)) ∧ Below w.heap.size w w'
section
variable {P : Program} {ops : Array Oper} {rest : List Oper} {o : Oper} {a : Act} {Q : Exit → Act → World → Prop}
theorem a8p {α : Type} {enc : α → Value} {W : World} (hgd : o.guard = none) {N : Tmp} (hd : o.dst = some N) {T K E : TypeId} {m x : Operand} (ho : o.op = .lookup T m x true) {g : Nat} {M : List (Int × α)} {k : Int} {z : Value}
  (hT : P.underlying T = some (.map K E)) (hK : P.underlying K = some (.int .i64)) (hz : (zeroValue E).run P W = .ok z W) (hb : W.heap[g]? = some (a1i enc M)) (hm : a.eval m = .map (some g)) (hx : a.eval x = .int .i64 k)
  (h : ∀ v, wpList P ops Q rest (a.put o.dst (.tuple #[v, .bool (mhas M k)])) W) : wpList P ops Q (o :: rest) a W := by
 refine a7x hgd hd ho hT hK hz hb hm hx ?_
 rw [if_pos rfl]
 exact h _
end
end Go.Proofs.Ytheibjkjmkanoaa.Given
