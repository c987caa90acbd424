/- A map whose keys are whole numbers, as a list of pairs in the order in which they came: what make, look-up and store do with it. Conditions: as each theorem states; nothing is ever deleted. -/
import Derived.Test.YtfbgkcadnmcakaaProg
import Derived.Test.YtfbgkcadnmcakaaWWords
import Derived.Test.YtfbgkcadnmcakaaWLast
import Derived.MapKept
namespace Go.Proofs.Ytfbgkcadnmcakaa.Given
open Go.RowKit Go.MapKept Go.Proofs.YtfbgkcadnmcakaaW.PrintWords Go.Proofs.YtfbgkcadnmcakaaW.PrintLast
set_option linter.unusedVariables false
set_option linter.unusedSimpArgs false
section
variable {α : Type}
def a3t (enc : α → Value) : List (Int × α) → Nat → List MapEntry
 | [], _ => []
 | p :: t, j => { key := .int .i64 p.1, val := enc p.2, born := j } :: a3t enc t (j + 1)
def a1o (enc : α → Value) (M : List (Int × α)) : Obj := .map (a3t enc M 0).toArray M.length
def mput : List (Int × α) → Int → α → List (Int × α)
 | [], k, v => [(k, v)]
 | p :: t, k, v => if p.1 = k then (p.1, v) :: t else p :: mput t k v
def a2m : List (Int × α) → Int → Option α
 | [], _ => none
 | p :: t, k => if p.1 = k then some p.2 else a2m t k
theorem a9g (enc : α → Value) : ∀ (M : List (Int × α)) (j : Nat), (a3t enc M j).length = M.length
 | [], _ => rfl
 | p :: t, j => by simp [a3t, a9g enc t]
theorem a6e {k : Int} {v : α} : ∀ {M : List (Int × α)}, a2m M k = none → (mput M k v).length = M.length + 1
 | [], _ => rfl
 | p :: t, h => by
  unfold a2m at h
  split at h
  ·simp at h
  ·rename_i c
   simp [mput, c, a6e h]
theorem a6f {k : Int} {v w : α} : ∀ {M : List (Int × α)}, a2m M k = some w → (mput M k v).length = M.length
 | [], h => by simp [a2m] at h
 | p :: t, h => by
  unfold a2m at h
  split at h
  ·rename_i c
   simp [mput, c]
  ·rename_i c
   simp [mput, c, a6f h]
theorem a7m (enc : α → Value) {k : Int} : ∀ {M : List (Int × α)} (j i : Nat), a2m M k = none → Instr.findNow (.int .i64) (.int .i64 k) (a3t enc M j) i = some none
 | [], j, i, _ => rfl
 | p :: t, j, i, h => by
  unfold a2m at h
  split at h
  ·simp at h
  ·rename_i c
   have h1 := a7m enc (j + 1) (i + 1) h
   have c2 : (k == p.1) = false := beq_false_of_ne (fun h => c h.symm)
   simp [a3t, Instr.findNow, Instr.sameNow, c2, h1]
theorem a9h (enc : α → Value) {k : Int} (v : α) : ∀ {M : List (Int × α)} (j : Nat), a2m M k = none → (a3t enc (mput M k v) j) = a3t enc M j ++ [{ key := .int .i64 k, val := enc v, born := j + M.length }]
 | [], j, _ => rfl
 | p :: t, j, h => by
  unfold a2m at h
  split at h
  ·simp at h
  ·rename_i c
   simp only [mput, if_neg c, a3t, a9h enc v (j + 1) h, List.cons_append, List.length_cons]
   rw [show j + 1 + t.length = j + (t.length + 1) by omega]
theorem a7n (enc : α → Value) {k : Int} {v0 : α} (v : α) : ∀ {M : List (Int × α)} (j i : Nat), a2m M k = some v0 → ∃ q, Instr.findNow (.int .i64) (.int .i64 k) (a3t enc M j) i = some (some (i + q, enc v0)) ∧ ((a3t enc M j)[q]?.map (·.key)) = some (.int .i64 k) ∧
   (a3t enc M j).modify q (fun e => { e with key := .int .i64 k, val := enc v }) = a3t enc (mput M k v) j
 | [], j, i, h => by simp [a2m] at h
 | p :: t, j, i, h => by
  unfold a2m at h
  split at h
  ·rename_i c
   obtain rfl : p.2 = v0 := by simpa using h
   refine ⟨0, by simp [a3t, Instr.findNow, Instr.sameNow, c], by simp [a3t, c], ?_⟩
   simp [a3t, mput, c]
  ·rename_i c
   obtain ⟨q, h1, h2, h3⟩ := a7n enc v (j + 1) (i + 1) h
   have c2 : (k == p.1) = false := beq_false_of_ne (fun h => c h.symm)
   refine ⟨q + 1, ?_, ?_, ?_⟩
   ·rw [show i + (q + 1) = i + 1 + q by omega]
    simp [a3t, Instr.findNow, Instr.sameNow, c2, h1]
   ·simpa [a3t] using h2
   ·simp only [a3t, mput, if_neg c, List.modify_succ_cons, h3]
end
section
variable {α : Type} {enc : α → Value} {P : Program} {w : World} {T K E : TypeId} {g : Nat} {M : List (Int × α)}
theorem b2k (hT : P.underlying T = some (.map K E)) (hK : P.underlying K = some (.int .i64)) {z : Value} (hz : (zeroValue E).run P w = .ok z w) (hb : w.heap[g]? = some (a1o enc M)) (k : Int) (c : Bool) :
  (Instr.lookup T (.map (some g)) (.int .i64 k) c).run P w = .ok (if c then .tuple #[((a2m M k).map enc).getD z, .bool (a2m M k).isSome] else ((a2m M k).map enc).getD z) w := by
 have hk : IsKey (.int .i64) (.int .i64 k) := by simp [IsKey]
 have hc : ∀ e, (Instr.checkKey e 10000 K (.int .i64 k)).run P w = .ok () w := fun e => MapKept.run_checkKey hK hk e 9999
 have hg : (getObj g).run P w = .ok (.map (a3t enc M 0).toArray M.length) w := MapKept.run_getObj_map hb
 cases hm : a2m M k with
 | none =>
  have hf := MapKept.run_findKey (P := P) (w := w) hK (a7m enc (k := k) 0 0 hm)
  simp [Instr.lookup, run_underlying hT, hg, hc, hf, hz, Result.andThen]
 | some v =>
  obtain ⟨q, h1, _⟩ := a7n enc v (k := k) 0 0 hm
  have hf := MapKept.run_findKey (P := P) (w := w) hK h1
  simp [Instr.lookup, run_underlying hT, hg, hc, hf, hz, Result.andThen]
theorem b3h (hT : P.underlying T = some (.map K E)) (hK : P.underlying K = some (.int .i64)) (hb : w.heap[g]? = some (a1o enc M)) (k : Int) (v : α) :
  (Instr.mapUpdate T (.map (some g)) (.int .i64 k) (enc v)).run P w = .ok () { w with heap := w.heap.setIfInBounds g (a1o enc (mput M k v)) } := by
 have hk : IsKey (.int .i64) (.int .i64 k) := by simp [IsKey]
 have hc : (Instr.checkKey false 10000 K (.int .i64 k)).run P w = .ok () w := MapKept.run_checkKey hK hk _ 9999
 have hg : (getObj g).run P w = .ok (.map (a3t enc M 0).toArray M.length) w := MapKept.run_getObj_map hb
 have hs : ∀ o', (setObj g o').run P w = .ok () { w with heap := w.heap.setIfInBounds g o' } := fun o' => MapKept.run_setObj_map o' hb
 cases hm : a2m M k with
 | none =>
  have h1 := a7m enc (k := k) 0 0 hm
  have h2 := a9h enc v (k := k) 0 hm
  have hf := MapKept.run_findKey (P := P) (w := w) hK h1
  simp [Instr.mapUpdate, run_underlying hT, hg, hc, hf, hs, Result.andThen, a1o, h2, a6e hm]
 | some v0 =>
  obtain ⟨q, h1, h2, h3⟩ := a7n enc v (k := k) 0 0 hm
  have hf := MapKept.run_findKey (P := P) (w := w) hK h1
  have hq : (a3t enc M 0)[q]?.map (·.key) = some (.int .i64 k) := h2
  simp [Instr.mapUpdate, run_underlying hT, hg, hc, hf, hs, Result.andThen, a1o, a6f hm, Instr.keyThatStays, hq, Instr.sameBits, ← h3]
end
def a1q {α : Type} (d : α) (M : List (Int × α)) (k : Int) : α := (a2m M k).getD d
def mhas {α : Type} (M : List (Int × α)) (k : Int) : Bool := (a2m M k).isSome
def a4s (M : List (Int × Bool)) (k : Int) : Bool := (a2m M k).getD false
section
variable {P : Program} {ops : Array Oper} {rest : List Oper} {o : Oper} {a : Act} {Q : Exit → Act → World → Prop}
theorem a7o {t : TypeId} {p : Tmp} {x v : Operand} (_ho : o.op = .mapUpdate t (.tmp p) x v) {W : World} (h : wpList P ops Q (o :: rest) a W) : wpList P ops Q (o :: rest) a W := h
theorem a7p {α : Type} (enc : α → Value) {W : World} (hgd : o.guard = none) {N : Tmp} (_hd : o.dst = some N) {T : TypeId} (ho : o.op = .makeMap T none)
  (h : ∀ g, g = W.heap.size → ∀ w1, w1.heap[g]? = some (a1o enc []) → Below W.heap.size W w1 → wpList P ops Q rest (a.put o.dst (.map (some g))) w1) : wpList P ops Q (o :: rest) a W := by
 have hrun : (execOp a.eval o).run P W = .ok (.value (.map (some W.heap.size))) (W.alloc (a1o enc [])) := by
  simp [execOp, ho, Instr.makeMap, newObj, a1o, a3t, go_sem]
  try rfl
 exact Kd.a5q hgd hrun (h _ rfl _ (a8s W _) (la_ (Below.refl _ _) _))
theorem a6y {α : Type} {enc : α → Value} {W : World} (hgd : o.guard = none) {T K E : TypeId} {m x v : Operand} (ho : o.op = .mapUpdate T m x v) {g : Nat} {M : List (Int × α)} {k : Int} {y : α}
  (hT : P.underlying T = some (.map K E)) (hK : P.underlying K = some (.int .i64)) (hb : W.heap[g]? = some (a1o enc M)) (hm : a.eval m = .map (some g)) (hx : a.eval x = .int .i64 k) (hv : a.eval v = enc y)
  (h : ∀ w1, w1.heap[g]? = some (a1o enc (mput M k y)) → W.grownBy w1 (some g) → wpList P ops Q rest (a.put o.dst undef) w1) : wpList P ops Q (o :: rest) a W := by
 have hlt := a2d hb
 refine wpList_plain hgd fun K' hK' => ?_
 unfold Oper.wp
 simp [execOp, ho, hm, hx, hv, b3h hT hK hb k y, Result.andThen]
 refine hK' _ _ (h _ ?_ ⟨rfl, rfl, rfl, by simp, fun i _ hi => ?_⟩)
 ·simp [hlt]
 ·have : ¬ g = i := fun e => hi (by rw [e])
  simp [Array.getElem?_setIfInBounds, this]
theorem a8b {α : Type} {enc : α → Value} {W : World} (hgd : o.guard = none) {N : Tmp} (_hd : o.dst = some N) {T K E : TypeId} {m x : Operand} {c : Bool} (ho : o.op = .lookup T m x c) {g : Nat} {M : List (Int × α)} {k : Int} {z : Value}
  (hT : P.underlying T = some (.map K E)) (hK : P.underlying K = some (.int .i64)) (hz : (zeroValue E).run P W = .ok z W) (hb : W.heap[g]? = some (a1o enc M)) (hm : a.eval m = .map (some g)) (hx : a.eval x = .int .i64 k)
  (h : wpList P ops Q rest (a.put o.dst (if c then .tuple #[((a2m M k).map enc).getD z, .bool (a2m M k).isSome] else ((a2m M k).map enc).getD z)) W) : wpList P ops Q (o :: rest) a W := by
 have hrun : (execOp a.eval o).run P W = .ok (.value (if c then .tuple #[((a2m M k).map enc).getD z, .bool (a2m M k).isSome] else ((a2m M k).map enc).getD z)) W := by
  simp [execOp, ho, hm, hx, b2k hT hK hz hb k c, Result.andThen]
 exact Kd.a5q hgd hrun h
theorem b3i {α : Type} {P : Program} {W : World} {enc : α → Value} {T K E : TypeId} {g : Nat} {M : List (Int × α)} (hT : P.underlying T = some (.map K E)) (hb : W.heap[g]? = some (a1o enc M)) (ty : TypeId) :
  (Builtin.len_ #[T] ty #[.map (some g)]).run P W = .ok (.int .i64 M.length) W := by
 have hb' : W.heap[g]? = some (.map (a3t enc M 0).toArray M.length) := hb
 simp [Builtin.len_, run_underlying hT, MapKept.run_getObj_map hb', goInt, Result.andThen, a9g]
theorem a9i {m : Operand} {T : TypeId} (_ho : o.op = .call { callee := .builtin .len, args := #[m], argTypes := #[T] }) {W : World} (h : wpList P ops Q (o :: rest) a W) : wpList P ops Q (o :: rest) a W := h
theorem a8n {α : Type} {enc : α → Value} {W : World} (hgd : o.guard = none) (m : Operand) (T : TypeId) {K E : TypeId} (ho : o.op = .call { callee := .builtin .len, args := #[m], argTypes := #[T] }) {g : Nat} {M : List (Int × α)}
  (hT : P.underlying T = some (.map K E)) (hb : W.heap[g]? = some (a1o enc M)) (hm : a.eval m = .map (some g))
  (h : wpList P ops Q rest (a.put o.dst (.int .i64 M.length)) W) : wpList P ops Q (o :: rest) a W := by
 refine wpList_plain hgd fun K' hK' => ?_
 unfold Oper.wp
 simp [execOp, ho, resolve, invoke, builtin, hm, b3i hT hb o.type, Result.andThen]
 exact hK' _ _ h
theorem a6g {α : Type} {enc : α → Value} {d : α} {W : World} (hgd : o.guard = none) {N : Tmp} (hd : o.dst = some N) {T K E : TypeId} {m x : Operand} (ho : o.op = .lookup T m x true) {g : Nat} {M : List (Int × α)} {k : Int}
  (hT : P.underlying T = some (.map K E)) (hK : P.underlying K = some (.int .i64)) (hz : (zeroValue E).run P W = .ok (enc d) W) (hb : W.heap[g]? = some (a1o enc M)) (hm : a.eval m = .map (some g)) (hx : a.eval x = .int .i64 k)
  (h : wpList P ops Q rest (a.put o.dst (.tuple #[enc (a1q d M k), .bool (mhas M k)])) W) : wpList P ops Q (o :: rest) a W := by
 refine a8b hgd hd ho hT hK hz hb hm hx ?_
 have e : ((a2m M k).map enc).getD (enc d) = enc (a1q d M k) := by unfold a1q; cases a2m M k <;> rfl
 rw [if_pos rfl, e]
 exact h
theorem a5h {W : World} (hgd : o.guard = none) {N : Tmp} (hd : o.dst = some N) {T K E : TypeId} {m x : Operand} (ho : o.op = .lookup T m x false) {g : Nat} {M : List (Int × Bool)} {k : Int}
  (hT : P.underlying T = some (.map K E)) (hK : P.underlying K = some (.int .i64)) (hz : (zeroValue E).run P W = .ok (.bool false) W) (hb : W.heap[g]? = some (a1o Value.bool M)) (hm : a.eval m = .map (some g)) (hx : a.eval x = .int .i64 k)
  (h : wpList P ops Q rest (a.put o.dst (.bool (a4s M k))) W) : wpList P ops Q (o :: rest) a W := by
 refine a8b hgd hd ho hT hK hz hb hm hx ?_
 have e : ((a2m M k).map Value.bool).getD (.bool false) = .bool (a4s M k) := by unfold a4s; cases a2m M k <;> rfl
 rw [if_neg (by simp), e]
 exact h
end
section
variable {α β : Type} {d : Kd α} {e base : Nat} {ok : Nat → Prop} {w W w1 w2 : World} {v : Value} {xs : List α}
theorem b3j {γ : Type} {enc : γ → Value} {M : List (Int × γ)} {g : Nat} (h : d.R e W base ok v xs) (hb : W.heap[g]? = some (a1o enc M)) (hg : W.grownBy w2 (some g)) : d.R e w2 base ok v xs :=
 Kd.a0z (Kd.a6b (Kd.a4q h) (fun k hk => hg.block k hk.2.2.1 (fun e_ => by
  obtain ⟨q, _, cs, hc⟩ := hk.2.2.2
  have : k = g := Option.some.inj e_
  subst this
  rw [hb] at hc
  unfold a1o at hc
  cases hc))) (fun k hk => hk.1)
theorem a6z {γ : Type} {enc : γ → Value} {M : List (Int × γ)} {g : Nat} (h : d.R e W base ok v xs) (hb : W.heap[g]? = some (a1o enc M)) : some g ≠ v.ownBlock := fun e_ => by
 have hk := (Kd.a4q h).1 g e_.symm
 obtain ⟨q, _, cs, hc⟩ := hk.2.2.2
 rw [hb] at hc
 unfold a1o at hc
 cases hc
theorem a1e {w : World} {g : Nat} {o : Obj} (h : w.heap[g]? = some o) {p : Addr} (hp : g ≠ p.block) (u : Value) : (w.setCell p u).heap[g]? = some o := (Below.heap_setCell w p u g hp).trans h
theorem a6h {g : Nat} (h : Below w.heap.size w W) (hg : W.grownBy w2 (some g)) (hge : w.heap.size ≤ g) : Below w.heap.size w w2 :=
 Below.grown h hg h.size (fun k hk => by obtain rfl : g = k := Option.some.inj hk; exact hge)
end
theorem a6o (w : World) : (zeroValue 4).run Try.prog w = .ok (.bool false) w := by kernel_rfl
end Go.Proofs.Ytfbgkcadnmcakaa.Given
