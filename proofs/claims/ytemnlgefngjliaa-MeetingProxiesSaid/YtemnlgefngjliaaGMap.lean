/- A map whose keys are whole numbers, as a list of pairs in the order in which they came: what make, look-up and store do with it. Conditions: as each theorem states; nothing is ever deleted. -/
import Derived.Test.YtemnlgefngjliaaProg
import Derived.Test.YtemnlgefngjliaaWWords
import Derived.Test.YtemnlgefngjliaaWLast
import Derived.MapKept
namespace Go.Proofs.Ytemnlgefngjliaa.Given
open Go.RowKit Go.MapKept Go.Proofs.YtemnlgefngjliaaW.PrintWords Go.Proofs.YtemnlgefngjliaaW.PrintLast
set_option linter.unusedVariables false
set_option linter.unusedSimpArgs false
section
variable {α : Type}
def a4w (enc : α → Value) : List (Int × α) → Nat → List MapEntry
 | [], _ => []
 | p :: t, j => { key := .int .i64 p.1, val := enc p.2, born := j } :: a4w enc t (j + 1)
def a3b (enc : α → Value) (M : List (Int × α)) : Obj := .map (a4w enc M 0).toArray M.length
def mput : List (Int × α) → Int → α → List (Int × α)
 | [], k, v => [(k, v)]
 | p :: t, k, v => if p.1 = k then (p.1, v) :: t else p :: mput t k v
def a3e : List (Int × α) → Int → Option α
 | [], _ => none
 | p :: t, k => if p.1 = k then some p.2 else a3e t k
theorem a8e {k : Int} {v : α} : ∀ {M : List (Int × α)}, a3e M k = none → (mput M k v).length = M.length + 1
 | [], _ => rfl
 | p :: t, h => by
  unfold a3e at h
  split at h
  ·simp at h
  ·rename_i c
   simp [mput, c, a8e h]
theorem a8f {k : Int} {v w : α} : ∀ {M : List (Int × α)}, a3e M k = some w → (mput M k v).length = M.length
 | [], h => by simp [a3e] at h
 | p :: t, h => by
  unfold a3e at h
  split at h
  ·rename_i c
   simp [mput, c]
  ·rename_i c
   simp [mput, c, a8f h]
theorem a8g (enc : α → Value) {k : Int} : ∀ {M : List (Int × α)} (j i : Nat), a3e M k = none → Instr.findNow (.int .i64) (.int .i64 k) (a4w enc M j) i = some none
 | [], j, i, _ => rfl
 | p :: t, j, i, h => by
  unfold a3e at h
  split at h
  ·simp at h
  ·rename_i c
   have h1 := a8g enc (j + 1) (i + 1) h
   have c2 : (k == p.1) = false := beq_false_of_ne (fun h => c h.symm)
   simp [a4w, Instr.findNow, Instr.sameNow, c2, h1]
theorem b0m (enc : α → Value) {k : Int} (v : α) : ∀ {M : List (Int × α)} (j : Nat), a3e M k = none → (a4w enc (mput M k v) j) = a4w enc M j ++ [{ key := .int .i64 k, val := enc v, born := j + M.length }]
 | [], j, _ => rfl
 | p :: t, j, h => by
  unfold a3e at h
  split at h
  ·simp at h
  ·rename_i c
   simp only [mput, if_neg c, a4w, b0m enc v (j + 1) h, List.cons_append, List.length_cons]
   rw [show j + 1 + t.length = j + (t.length + 1) by omega]
theorem a8h (enc : α → Value) {k : Int} {v0 : α} (v : α) : ∀ {M : List (Int × α)} (j i : Nat), a3e M k = some v0 → ∃ q, Instr.findNow (.int .i64) (.int .i64 k) (a4w enc M j) i = some (some (i + q, enc v0)) ∧ ((a4w enc M j)[q]?.map (·.key)) = some (.int .i64 k) ∧
   (a4w enc M j).modify q (fun e => { e with key := .int .i64 k, val := enc v }) = a4w enc (mput M k v) j
 | [], j, i, h => by simp [a3e] at h
 | p :: t, j, i, h => by
  unfold a3e at h
  split at h
  ·rename_i c
   obtain rfl : p.2 = v0 := by simpa using h
   refine ⟨0, by simp [a4w, Instr.findNow, Instr.sameNow, c], by simp [a4w, c], ?_⟩
   simp [a4w, mput, c]
  ·rename_i c
   obtain ⟨q, h1, h2, h3⟩ := a8h enc v (j + 1) (i + 1) h
   have c2 : (k == p.1) = false := beq_false_of_ne (fun h => c h.symm)
   refine ⟨q + 1, ?_, ?_, ?_⟩
   ·rw [show i + (q + 1) = i + 1 + q by omega]
    simp [a4w, Instr.findNow, Instr.sameNow, c2, h1]
   ·simpa [a4w] using h2
   ·simp only [a4w, mput, if_neg c, List.modify_succ_cons, h3]
end
section
variable {α : Type} {enc : α → Value} {P : Program} {w : World} {T K E : TypeId} {g : Nat} {M : List (Int × α)}
theorem b4d (hT : P.underlying T = some (.map K E)) (hK : P.underlying K = some (.int .i64)) {z : Value} (hz : (zeroValue E).run P w = .ok z w) (hb : w.heap[g]? = some (a3b enc M)) (k : Int) (c : Bool) :
  (Instr.lookup T (.map (some g)) (.int .i64 k) c).run P w = .ok (if c then .tuple #[((a3e M k).map enc).getD z, .bool (a3e M k).isSome] else ((a3e M k).map enc).getD z) w := by
 have hk : IsKey (.int .i64) (.int .i64 k) := by simp [IsKey]
 have hc : ∀ e, (Instr.checkKey e 10000 K (.int .i64 k)).run P w = .ok () w := fun e => MapKept.run_checkKey hK hk e 9999
 have hg : (getObj g).run P w = .ok (.map (a4w enc M 0).toArray M.length) w := MapKept.run_getObj_map hb
 cases hm : a3e M k with
 | none =>
  have hf := MapKept.run_findKey (P := P) (w := w) hK (a8g enc (k := k) 0 0 hm)
  simp [Instr.lookup, run_underlying hT, hg, hc, hf, hz, Result.andThen]
 | some v =>
  obtain ⟨q, h1, _⟩ := a8h enc v (k := k) 0 0 hm
  have hf := MapKept.run_findKey (P := P) (w := w) hK h1
  simp [Instr.lookup, run_underlying hT, hg, hc, hf, hz, Result.andThen]
theorem b5k (hT : P.underlying T = some (.map K E)) (hK : P.underlying K = some (.int .i64)) (hb : w.heap[g]? = some (a3b enc M)) (k : Int) (v : α) :
  (Instr.mapUpdate T (.map (some g)) (.int .i64 k) (enc v)).run P w = .ok () { w with heap := w.heap.setIfInBounds g (a3b enc (mput M k v)) } := by
 have hk : IsKey (.int .i64) (.int .i64 k) := by simp [IsKey]
 have hc : (Instr.checkKey false 10000 K (.int .i64 k)).run P w = .ok () w := MapKept.run_checkKey hK hk _ 9999
 have hg : (getObj g).run P w = .ok (.map (a4w enc M 0).toArray M.length) w := MapKept.run_getObj_map hb
 have hs : ∀ o', (setObj g o').run P w = .ok () { w with heap := w.heap.setIfInBounds g o' } := fun o' => MapKept.run_setObj_map o' hb
 cases hm : a3e M k with
 | none =>
  have h1 := a8g enc (k := k) 0 0 hm
  have h2 := b0m enc v (k := k) 0 hm
  have hf := MapKept.run_findKey (P := P) (w := w) hK h1
  simp [Instr.mapUpdate, run_underlying hT, hg, hc, hf, hs, Result.andThen, a3b, h2, a8e hm]
 | some v0 =>
  obtain ⟨q, h1, h2, h3⟩ := a8h enc v (k := k) 0 0 hm
  have hf := MapKept.run_findKey (P := P) (w := w) hK h1
  have hq : (a4w enc M 0)[q]?.map (·.key) = some (.int .i64 k) := h2
  simp [Instr.mapUpdate, run_underlying hT, hg, hc, hf, hs, Result.andThen, a3b, a8f hm, Instr.keyThatStays, hq, Instr.sameBits, ← h3]
end
def a3r (M : List (Int × Int)) (k : Int) : Int := (a3e M k).getD 0
section
variable {P : Program} {ops : Array Oper} {rest : List Oper} {o : Oper} {a : Act} {Q : Exit → Act → World → Prop}
theorem b4e {t : TypeId} {p : Tmp} {x v : Operand} (_ho : o.op = .mapUpdate t (.tmp p) x v) {W : World} (h : wpList P ops Q (o :: rest) a W) : wpList P ops Q (o :: rest) a W := h
theorem b4f {α : Type} (enc : α → Value) {W : World} (hgd : o.guard = none) {N : Tmp} (_hd : o.dst = some N) {T : TypeId} (ho : o.op = .makeMap T none)
  (h : ∀ g, g = W.heap.size → ∀ w1, w1.heap[g]? = some (a3b enc []) → Below W.heap.size W w1 → wpList P ops Q rest (a.put o.dst (.map (some g))) w1) : wpList P ops Q (o :: rest) a W := by
 have hrun : (execOp a.eval o).run P W = .ok (.value (.map (some W.heap.size))) (W.alloc (a3b enc [])) := by
  simp [execOp, ho, Instr.makeMap, newObj, a3b, a4w, go_sem]
  try rfl
 exact Kd.a6n hgd hrun (h _ rfl _ (a9t W _) (la_ (Below.refl _ _) _))
theorem b3d {α : Type} {enc : α → Value} {W : World} (hgd : o.guard = none) {T K E : TypeId} {m x v : Operand} (ho : o.op = .mapUpdate T m x v) {g : Nat} {M : List (Int × α)} {k : Int} {y : α}
  (hT : P.underlying T = some (.map K E)) (hK : P.underlying K = some (.int .i64)) (hb : W.heap[g]? = some (a3b enc M)) (hm : a.eval m = .map (some g)) (hx : a.eval x = .int .i64 k) (hv : a.eval v = enc y)
  (h : ∀ w1, w1.heap[g]? = some (a3b enc (mput M k y)) → W.grownBy w1 (some g) → wpList P ops Q rest (a.put o.dst undef) w1) : wpList P ops Q (o :: rest) a W := by
 have hlt := a0y hb
 refine wpList_plain hgd fun K' hK' => ?_
 unfold Oper.wp
 simp [execOp, ho, hm, hx, hv, b5k hT hK hb k y, Result.andThen]
 refine hK' _ _ (h _ ?_ ⟨rfl, rfl, rfl, by simp, fun i _ hi => ?_⟩)
 ·simp [hlt]
 ·have : ¬ g = i := fun e => hi (by rw [e])
  simp [Array.getElem?_setIfInBounds, this]
theorem b2c {α : Type} {enc : α → Value} {W : World} (hgd : o.guard = none) {N : Tmp} (_hd : o.dst = some N) {T K E : TypeId} {m x : Operand} {c : Bool} (ho : o.op = .lookup T m x c) {g : Nat} {M : List (Int × α)} {k : Int} {z : Value}
  (hT : P.underlying T = some (.map K E)) (hK : P.underlying K = some (.int .i64)) (hz : (zeroValue E).run P W = .ok z W) (hb : W.heap[g]? = some (a3b enc M)) (hm : a.eval m = .map (some g)) (hx : a.eval x = .int .i64 k)
  (h : wpList P ops Q rest (a.put o.dst (if c then .tuple #[((a3e M k).map enc).getD z, .bool (a3e M k).isSome] else ((a3e M k).map enc).getD z)) W) : wpList P ops Q (o :: rest) a W := by
 have hrun : (execOp a.eval o).run P W = .ok (.value (if c then .tuple #[((a3e M k).map enc).getD z, .bool (a3e M k).isSome] else ((a3e M k).map enc).getD z)) W := by
  simp [execOp, ho, hm, hx, b4d hT hK hz hb k c, Result.andThen]
 exact Kd.a6n hgd hrun h
theorem a8i {W : World} (hgd : o.guard = none) {N : Tmp} (hd : o.dst = some N) {T K E : TypeId} {m x : Operand} (ho : o.op = .lookup T m x false) {g : Nat} {M : List (Int × Int)} {k : Int}
  (hT : P.underlying T = some (.map K E)) (hK : P.underlying K = some (.int .i64)) (hz : (zeroValue E).run P W = .ok (.int .i64 0) W) (hb : W.heap[g]? = some (a3b (Value.int .i64) M)) (hm : a.eval m = .map (some g)) (hx : a.eval x = .int .i64 k)
  (h : wpList P ops Q rest (a.put o.dst (.int .i64 (a3r M k))) W) : wpList P ops Q (o :: rest) a W := by
 refine b2c hgd hd ho hT hK hz hb hm hx ?_
 have e : ((a3e M k).map (Value.int .i64)).getD (.int .i64 0) = .int .i64 (a3r M k) := by unfold a3r; cases a3e M k <;> rfl
 rw [if_neg (by simp), e]
 exact h
end
section
variable {α β : Type} {d : Kd α} {e base : Nat} {ok : Nat → Prop} {w W w1 w2 : World} {v : Value} {xs : List α}
theorem a4i {w : World} {g : Nat} {o : Obj} (h : w.heap[g]? = some o) {p : Addr} (hp : g ≠ p.block) (u : Value) : (w.setCell p u).heap[g]? = some o := (Below.heap_setCell w p u g hp).trans h
theorem b1m {g : Nat} (h : Below w.heap.size w W) (hg : W.grownBy w2 (some g)) (hge : w.heap.size ≤ g) : Below w.heap.size w w2 :=
 Below.grown h hg h.size (fun k hk => by obtain rfl : g = k := Option.some.inj hk; exact hge)
end
theorem b1n (w : World) : (zeroValue 3).run Try.prog w = .ok (.int .i64 0) w := by kernel_rfl
end Go.Proofs.Ytemnlgefngjliaa.Given
