/- A map whose keys are whole numbers, as a list of pairs in the order in which they came: what make, look-up and store do with it. Conditions: as each theorem states; nothing is ever deleted. -/
import Derived.Test.YtfhmbfadbfnnaaaDoorProg
import Derived.Test.YtfhmbfadbfnnaaaDoorWWords
import Derived.Test.YtfhmbfadbfnnaaaDoorWLast
import Derived.MapKept
namespace Go.Proofs.YtfhmbfadbfnnaaaDoor.Given
open Go.RowKit Go.MapKept Go.Proofs.YtfhmbfadbfnnaaaDoorW.PrintWords Go.Proofs.YtfhmbfadbfnnaaaDoorW.PrintLast
set_option linter.unusedVariables false
set_option linter.unusedSimpArgs false
section
variable {α : Type}
def ments (enc : α → Value) : List (Int × α) → Nat → List MapEntry
  | [], _ => []
  | p :: t, j => { key := .int .i64 p.1, val := enc p.2, born := j } :: ments enc t (j + 1)
def mapObj (enc : α → Value) (M : List (Int × α)) : Obj := .map (ments enc M 0).toArray M.length
def mput : List (Int × α) → Int → α → List (Int × α)
  | [], k, v => [(k, v)]
  | p :: t, k, v => if p.1 = k then (p.1, v) :: t else p :: mput t k v
def mfind : List (Int × α) → Int → Option α
  | [], _ => none
  | p :: t, k => if p.1 = k then some p.2 else mfind t k
theorem ments_len (enc : α → Value) : ∀ (M : List (Int × α)) (j : Nat), (ments enc M j).length = M.length
  | [], _ => rfl
  | p :: t, j => by simp [ments, ments_len enc t]
theorem mput_len_new {k : Int} {v : α} : ∀ {M : List (Int × α)}, mfind M k = none → (mput M k v).length = M.length + 1
  | [], _ => rfl
  | p :: t, h => by
    unfold mfind at h
    split at h
    · simp at h
    · rename_i c
      simp [mput, c, mput_len_new h]
theorem mput_len_old {k : Int} {v w : α} : ∀ {M : List (Int × α)}, mfind M k = some w → (mput M k v).length = M.length
  | [], h => by simp [mfind] at h
  | p :: t, h => by
    unfold mfind at h
    split at h
    · rename_i c
      simp [mput, c]
    · rename_i c
      simp [mput, c, mput_len_old h]
theorem find_none (enc : α → Value) {k : Int} : ∀ {M : List (Int × α)} (j i : Nat), mfind M k = none → Instr.findNow (.int .i64) (.int .i64 k) (ments enc M j) i = some none
  | [], j, i, _ => rfl
  | p :: t, j, i, h => by
    unfold mfind at h
    split at h
    · simp at h
    · rename_i c
      have h1 := find_none enc (j + 1) (i + 1) h
      have c2 : (k == p.1) = false := beq_false_of_ne (fun h => c h.symm)
      simp [ments, Instr.findNow, Instr.sameNow, c2, h1]
theorem push_none (enc : α → Value) {k : Int} (v : α) : ∀ {M : List (Int × α)} (j : Nat), mfind M k = none → (ments enc (mput M k v) j) = ments enc M j ++ [{ key := .int .i64 k, val := enc v, born := j + M.length }]
  | [], j, _ => rfl
  | p :: t, j, h => by
    unfold mfind at h
    split at h
    · simp at h
    · rename_i c
      simp only [mput, if_neg c, ments, push_none enc v (j + 1) h, List.cons_append, List.length_cons]
      rw [show j + 1 + t.length = j + (t.length + 1) by omega]
theorem find_some (enc : α → Value) {k : Int} {v0 : α} (v : α) : ∀ {M : List (Int × α)} (j i : Nat), mfind M k = some v0 → ∃ q, Instr.findNow (.int .i64) (.int .i64 k) (ments enc M j) i = some (some (i + q, enc v0)) ∧ ((ments enc M j)[q]?.map (·.key)) = some (.int .i64 k) ∧
      (ments enc M j).modify q (fun e => { e with key := .int .i64 k, val := enc v }) = ments enc (mput M k v) j
  | [], j, i, h => by simp [mfind] at h
  | p :: t, j, i, h => by
    unfold mfind at h
    split at h
    · rename_i c
      obtain rfl : p.2 = v0 := by simpa using h
      refine ⟨0, by simp [ments, Instr.findNow, Instr.sameNow, c], by simp [ments, c], ?_⟩
      simp [ments, mput, c]
    · rename_i c
      obtain ⟨q, h1, h2, h3⟩ := find_some enc v (j + 1) (i + 1) h
      have c2 : (k == p.1) = false := beq_false_of_ne (fun h => c h.symm)
      refine ⟨q + 1, ?_, ?_, ?_⟩
      · rw [show i + (q + 1) = i + 1 + q by omega]
        simp [ments, Instr.findNow, Instr.sameNow, c2, h1]
      · simpa [ments] using h2
      · simp only [ments, mput, if_neg c, List.modify_succ_cons, h3]
end
section
variable {α : Type} {enc : α → Value} {P : Program} {w : World} {T K E : TypeId} {g : Nat} {M : List (Int × α)}
theorem run_mlook (hT : P.underlying T = some (.map K E)) (hK : P.underlying K = some (.int .i64)) {z : Value} (hz : (zeroValue E).run P w = .ok z w) (hb : w.heap[g]? = some (mapObj enc M)) (k : Int) (c : Bool) :
    (Instr.lookup T (.map (some g)) (.int .i64 k) c).run P w = .ok (if c then .tuple #[((mfind M k).map enc).getD z, .bool (mfind M k).isSome] else ((mfind M k).map enc).getD z) w := by
  have hk : IsKey (.int .i64) (.int .i64 k) := by simp [IsKey]
  have hc : ∀ e, (Instr.checkKey e 10000 K (.int .i64 k)).run P w = .ok () w := fun e => MapKept.run_checkKey hK hk e 9999
  have hg : (getObj g).run P w = .ok (.map (ments enc M 0).toArray M.length) w := MapKept.run_getObj_map hb
  cases hm : mfind M k with
  | none =>
    have hf := MapKept.run_findKey (P := P) (w := w) hK (find_none enc (k := k) 0 0 hm)
    simp [Instr.lookup, run_underlying hT, hg, hc, hf, hz, Result.andThen]
  | some v =>
    obtain ⟨q, h1, _⟩ := find_some enc v (k := k) 0 0 hm
    have hf := MapKept.run_findKey (P := P) (w := w) hK h1
    simp [Instr.lookup, run_underlying hT, hg, hc, hf, hz, Result.andThen]
theorem run_mput (hT : P.underlying T = some (.map K E)) (hK : P.underlying K = some (.int .i64)) (hb : w.heap[g]? = some (mapObj enc M)) (k : Int) (v : α) :
    (Instr.mapUpdate T (.map (some g)) (.int .i64 k) (enc v)).run P w = .ok () { w with heap := w.heap.setIfInBounds g (mapObj enc (mput M k v)) } := by
  have hk : IsKey (.int .i64) (.int .i64 k) := by simp [IsKey]
  have hc : (Instr.checkKey false 10000 K (.int .i64 k)).run P w = .ok () w := MapKept.run_checkKey hK hk _ 9999
  have hg : (getObj g).run P w = .ok (.map (ments enc M 0).toArray M.length) w := MapKept.run_getObj_map hb
  have hs : ∀ o', (setObj g o').run P w = .ok () { w with heap := w.heap.setIfInBounds g o' } := fun o' => MapKept.run_setObj_map o' hb
  cases hm : mfind M k with
  | none =>
    have h1 := find_none enc (k := k) 0 0 hm
    have h2 := push_none enc v (k := k) 0 hm
    have hf := MapKept.run_findKey (P := P) (w := w) hK h1
    simp [Instr.mapUpdate, run_underlying hT, hg, hc, hf, hs, Result.andThen, mapObj, h2, mput_len_new hm]
  | some v0 =>
    obtain ⟨q, h1, h2, h3⟩ := find_some enc v (k := k) 0 0 hm
    have hf := MapKept.run_findKey (P := P) (w := w) hK h1
    have hq : (ments enc M 0)[q]?.map (·.key) = some (.int .i64 k) := h2
    simp [Instr.mapUpdate, run_underlying hT, hg, hc, hf, hs, Result.andThen, mapObj, mput_len_old hm, Instr.keyThatStays, hq, Instr.sameBits, ← h3]
end
def mget0 (M : List (Int × Int)) (k : Int) : Int := (mfind M k).getD 0
def mgetB (M : List (Int × Bool)) (k : Int) : Bool := (mfind M k).getD false
section
variable {P : Program} {ops : Array Oper} {rest : List Oper} {o : Oper} {a : Act} {Q : Exit → Act → World → Prop}
theorem gate_mput {t : TypeId} {p : Tmp} {x v : Operand} (_ho : o.op = .mapUpdate t (.tmp p) x v) {W : World} (h : wpList P ops Q (o :: rest) a W) : wpList P ops Q (o :: rest) a W := h
theorem map_event {α : Type} (enc : α → Value) {W : World} (hgd : o.guard = none) {N : Tmp} (_hd : o.dst = some N) {T : TypeId} (ho : o.op = .makeMap T none)
    (h : ∀ g, g = W.heap.size → ∀ w1, w1.heap[g]? = some (mapObj enc []) → Below W.heap.size W w1 → wpList P ops Q rest (a.put o.dst (.map (some g))) w1) : wpList P ops Q (o :: rest) a W := by
  have hrun : (execOp a.eval o).run P W = .ok (.value (.map (some W.heap.size))) (W.alloc (mapObj enc [])) := by
    simp [execOp, ho, Instr.makeMap, newObj, mapObj, ments, go_sem]
    try rfl
  exact Kd.event_run hgd hrun (h _ rfl _ (blk_new W _) (below_alloc (Below.refl _ _) _))
theorem mput_event {α : Type} {enc : α → Value} {W : World} (hgd : o.guard = none) {T K E : TypeId} {m x v : Operand} (ho : o.op = .mapUpdate T m x v) {g : Nat} {M : List (Int × α)} {k : Int} {y : α}
    (hT : P.underlying T = some (.map K E)) (hK : P.underlying K = some (.int .i64)) (hb : W.heap[g]? = some (mapObj enc M)) (hm : a.eval m = .map (some g)) (hx : a.eval x = .int .i64 k) (hv : a.eval v = enc y)
    (h : ∀ w1, w1.heap[g]? = some (mapObj enc (mput M k y)) → W.grownBy w1 (some g) → wpList P ops Q rest (a.put o.dst undef) w1) : wpList P ops Q (o :: rest) a W := by
  have hlt := blk_lt hb
  refine wpList_plain hgd fun K' hK' => ?_
  unfold Oper.wp
  simp [execOp, ho, hm, hx, hv, run_mput hT hK hb k y, Result.andThen]
  refine hK' _ _ (h _ ?_ ⟨rfl, rfl, rfl, by simp, fun i _ hi => ?_⟩)
  · simp [hlt]
  · have : ¬ g = i := fun e => hi (by rw [e])
    simp [Array.getElem?_setIfInBounds, this]
theorem mlook_event {α : Type} {enc : α → Value} {W : World} (hgd : o.guard = none) {N : Tmp} (_hd : o.dst = some N) {T K E : TypeId} {m x : Operand} {c : Bool} (ho : o.op = .lookup T m x c) {g : Nat} {M : List (Int × α)} {k : Int} {z : Value}
    (hT : P.underlying T = some (.map K E)) (hK : P.underlying K = some (.int .i64)) (hz : (zeroValue E).run P W = .ok z W) (hb : W.heap[g]? = some (mapObj enc M)) (hm : a.eval m = .map (some g)) (hx : a.eval x = .int .i64 k)
    (h : wpList P ops Q rest (a.put o.dst (if c then .tuple #[((mfind M k).map enc).getD z, .bool (mfind M k).isSome] else ((mfind M k).map enc).getD z)) W) : wpList P ops Q (o :: rest) a W := by
  have hrun : (execOp a.eval o).run P W = .ok (.value (if c then .tuple #[((mfind M k).map enc).getD z, .bool (mfind M k).isSome] else ((mfind M k).map enc).getD z)) W := by
    simp [execOp, ho, hm, hx, run_mlook hT hK hz hb k c, Result.andThen]
  exact Kd.event_run hgd hrun h
theorem mlookI_event {W : World} (hgd : o.guard = none) {N : Tmp} (hd : o.dst = some N) {T K E : TypeId} {m x : Operand} (ho : o.op = .lookup T m x false) {g : Nat} {M : List (Int × Int)} {k : Int}
    (hT : P.underlying T = some (.map K E)) (hK : P.underlying K = some (.int .i64)) (hz : (zeroValue E).run P W = .ok (.int .i64 0) W) (hb : W.heap[g]? = some (mapObj (Value.int .i64) M)) (hm : a.eval m = .map (some g)) (hx : a.eval x = .int .i64 k)
    (h : wpList P ops Q rest (a.put o.dst (.int .i64 (mget0 M k))) W) : wpList P ops Q (o :: rest) a W := by
  refine mlook_event hgd hd ho hT hK hz hb hm hx ?_
  have e : ((mfind M k).map (Value.int .i64)).getD (.int .i64 0) = .int .i64 (mget0 M k) := by unfold mget0; cases mfind M k <;> rfl
  rw [if_neg (by simp), e]
  exact h
theorem mlookB_event {W : World} (hgd : o.guard = none) {N : Tmp} (hd : o.dst = some N) {T K E : TypeId} {m x : Operand} (ho : o.op = .lookup T m x false) {g : Nat} {M : List (Int × Bool)} {k : Int}
    (hT : P.underlying T = some (.map K E)) (hK : P.underlying K = some (.int .i64)) (hz : (zeroValue E).run P W = .ok (.bool false) W) (hb : W.heap[g]? = some (mapObj Value.bool M)) (hm : a.eval m = .map (some g)) (hx : a.eval x = .int .i64 k)
    (h : wpList P ops Q rest (a.put o.dst (.bool (mgetB M k))) W) : wpList P ops Q (o :: rest) a W := by
  refine mlook_event hgd hd ho hT hK hz hb hm hx ?_
  have e : ((mfind M k).map Value.bool).getD (.bool false) = .bool (mgetB M k) := by unfold mgetB; cases mfind M k <;> rfl
  rw [if_neg (by simp), e]
  exact h
end
section
variable {α β : Type} {d : Kd α} {e base : Nat} {ok : Nat → Prop} {w W w1 w2 : World} {v : Value} {xs : List α}
/-- A row of the call's own, behind a store into a map. -/
theorem R_mapped {γ : Type} {enc : γ → Value} {M : List (Int × γ)} {g : Nat} (h : d.R e W base ok v xs) (hb : W.heap[g]? = some (mapObj enc M)) (hg : W.grownBy w2 (some g)) : d.R e w2 base ok v xs :=
  Kd.R_mono (Kd.R_move (Kd.R_bound h) (fun k hk => hg.block k hk.2.2.1 (fun e_ => by
    obtain ⟨q, _, cs, hc⟩ := hk.2.2.2
    have : k = g := Option.some.inj e_
    subst this
    rw [hb] at hc
    unfold mapObj at hc
    cases hc))) (fun k hk => hk.1)
theorem R_nem {γ : Type} {enc : γ → Value} {M : List (Int × γ)} {g : Nat} (h : d.R e W base ok v xs) (hb : W.heap[g]? = some (mapObj enc M)) : some g ≠ v.ownBlock := fun e_ => by
  have hk := (Kd.R_bound h).1 g e_.symm
  obtain ⟨q, _, cs, hc⟩ := hk.2.2.2
  rw [hb] at hc
  unfold mapObj at hc
  cases hc
theorem blk_farO {w : World} {g : Nat} {o : Obj} (h : w.heap[g]? = some o) {p : Addr} (hp : g ≠ p.block) (u : Value) : (w.setCell p u).heap[g]? = some o := (Below.heap_setCell w p u g hp).trans h
theorem below_mapped {g : Nat} (h : Below w.heap.size w W) (hg : W.grownBy w2 (some g)) (hge : w.heap.size ≤ g) : Below w.heap.size w w2 :=
  Below.grown h hg h.size (fun k hk => by obtain rfl : g = k := Option.some.inj hk; exact hge)
end
theorem zero_i64 (w : World) : (zeroValue 3).run Tryd.prog w = .ok (.int .i64 0) w := by kernel_rfl
theorem zero_bool (w : World) : (zeroValue 4).run Tryd.prog w = .ok (.bool false) w := by kernel_rfl
end Go.Proofs.YtfhmbfadbfnnaaaDoor.Given
