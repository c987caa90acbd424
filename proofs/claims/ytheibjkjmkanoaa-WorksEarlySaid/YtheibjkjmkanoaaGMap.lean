/- Small lemmas that our printed contracts lean on. Conditions: as each theorem states. -/
import Derived.MapKept
import Derived.Test.YtheibjkjmkanoaaProg
import Derived.Test.YtheibjkjmkanoaaWWords
import Derived.Test.YtheibjkjmkanoaaWLast
import Derived.Test.YtheibjkjmkanoaaWTab
namespace Go.Proofs.Ytheibjkjmkanoaa.Given
open Go.RowKit Go.Proofs.YtheibjkjmkanoaaW.PrintWords Go.Proofs.YtheibjkjmkanoaaW.PrintLast
section
variable {P : Program} {ops : Array Oper} {Q : Exit → Act → World → Prop}
theorem b7m {oi : Oper} {N : Option Tmp} {a : Act} {w : World} {K : Act → World → Prop} {f : FuncId} {fn : Func} {o : Operand} {as_ : Array Operand} {ts : Array TypeId} (hf : P.funcs[f]? = some fn) (hname : (fn.name == "runtime.NumGoroutine") = false) (hb : fn.body.isSome = true) (args : Array Value)
  (hw : Region.wanted oi (yielded ops a.tmps) = true) (hN : oi.dst = N) (hop : oi.op = .call { callee := .value o, args := as_, argTypes := ts }) (hcal : a.eval o = .func (.func f) #[] #[]) (hargs : as_.map a.eval = args)
  (h : Calls P f args w fun e w' => ∃ v, e = .returned v ∧ K (a.put N v) w') : if Region.wanted oi (yielded ops a.tmps) = true then Oper.wp P oi a w K Q else K (a.put N undef) w := by
 refine call_ f args hw hN ?_ h
 have he := b2p hf hname hb args w
 unfold execOp
 simp [hop, resolve, Deferred.ofValue, invoke, hcal, hargs, he]
end
theorem qb_ {P : Prop} (h : P := by repeat (first | (with_reducible first | exact HB.out | apply la_ | apply ln_ | apply ld_ | refine ls_ ?_ (Aside0.out (by assumption))) | exact HB.out)) : P := h
theorem qr_ {P Q : Prop} (H : Aside0 P) (h : P → Q := by intro hh; (with_reducible repeat (first | apply Kd.a2n | apply Kd.a2o | apply Kd.a2i)); exact hh) : Q := h H.out
theorem qk_ {P Q : Prop} (H : Aside0 P) (h : P → Q := by intro hh; (with_reducible repeat (first | refine bn_ ?_ _ | refine bd_ ?_ | refine ba_ ?_ _)); exact hh) : Q := h H.out
theorem qd_ {P Q : Prop} (a : P) (h : P → Q := by intro hh; (with_reducible repeat (first | refine bn_ ?_ _ | refine bd_ ?_ | refine ba_ ?_ _)); exact hh) : Q := h a
theorem qc_ {P Q : Prop} (H : Aside0 P) (h : P → Q := by intro hh; repeat (first | exact (Kd.a2s hh HB.out) | (with_reducible refine Kd.a1t ?_ _) | (with_reducible refine Kd.a1u ?_ _) | (with_reducible refine Kd.a2h ?_))) : Q := h H.out
theorem qv_ {P Q : Prop} (H : P) (h : P → Q := by intro hh; repeat (first | exact hh | (with_reducible refine Kd.a1t ?_ _) | (with_reducible refine Kd.a1u ?_ _) | (with_reducible refine Kd.a2h ?_))) : Q := h H
theorem qn_ {P Q : Prop} (hh : P) (h : P → Q := by intro hh; first | (rw [add_block]; exact hh) | (show (Addr.add _ _).block ≠ _; rw [add_block]; exact hh) | exact hh) : Q := h hh
theorem ql_ {P : Prop} (h : P := by (try simp only [List.map_toArray, List.map_cons, List.map_nil]); first | done | rfl | (simp only [List.length_drop, List.length_take]; rfl)) : P := h
theorem qs_ {P : Prop} (h : P := by first | rfl | (simp; done) | (simp [*]; done)) : P := h
theorem qx_ {P : Prop} (h : P := by first | rfl | (simp [a4e, a4f] <;> rfl) | (simp [*, a4e, a4f] <;> rfl)) : P := h
theorem qa_ {P : Prop} (h : P := by first | (with_reducible assumption) | assumption) : P := h
theorem qy_ {P : Prop} (h : P := by repeat (first | exact a3u.refl _ | apply a3u.step)) : P := h
theorem qo_ {P : Prop} (h : P := by first | omega | exact Nat.le_refl _) : P := h
theorem qp_ {P : Prop} (h : P := by simp only [Act.put, List.setIfInBounds_toArray, List.set_cons_zero, List.set_cons_succ, a4j, a4v]; rfl) : P := h
theorem qg_ {w W : World} {g : Nat} (hg : g = W.heap.size) (h : Below w.heap.size w W := by repeat (first | (with_reducible first | exact HB.out | apply la_ | apply ln_ | apply ld_ | refine ls_ ?_ (Aside0.out (by assumption))) | exact HB.out)) : w.heap.size ≤ g := hg ▸ a0z h
theorem qkb_ {w w' w1 : World} {g : Nat} {o : Obj} (H : Aside0 (w.heap[g]? = some o)) (hb : Below w'.heap.size w' w1) (h : w.heap[g]? = some o → w'.heap[g]? = some o := by intro hh; (with_reducible repeat (first | refine bn_ ?_ _ | refine bd_ ?_ | refine ba_ ?_ _)); exact hh) : Aside0 (w1.heap[g]? = some o) := Aside0.mk (a2g (h H.out) hb)
theorem qbs_ {w W w2 : World} (hb : Below W.heap.size W w2) (h : Below w.heap.size w W := by repeat (first | (with_reducible first | exact HB.out | apply la_ | apply ln_ | apply ld_ | refine ls_ ?_ (Aside0.out (by assumption))) | exact HB.out)) : Aside0 (Below w.heap.size w w2) := Aside0.mk (b6g h hb)
theorem qz2_ {w : World} {g : Nat} {t : TypeId} {c0 c1 : Value} (h : Aside0 (w.heap[g]? = some (.cells #[c0, c1] t (0, 0)))) : w.cell? ⟨g, 0, none⟩ = some c0 ∧ w.cell? ⟨g, 1, none⟩ = some c1 := ⟨(bc_ h.out 0).trans rfl, (bc_ h.out 1).trans rfl⟩
theorem qf2_ {w : World} {g : Nat} {t : TypeId} {cs : Array Value} (h : Aside0 (w.heap[g]? = some (.cells cs t (0, 0)))) : w.frozen? ⟨g, 0, none⟩ = false ∧ w.frozen? ⟨g, 1, none⟩ = false := ⟨bf_ h.out 0, bf_ h.out 1⟩
theorem qz3_ {w : World} {g : Nat} {t : TypeId} {c0 c1 c2 : Value} (h : Aside0 (w.heap[g]? = some (.cells #[c0, c1, c2] t (0, 0)))) : w.cell? ⟨g, 0, none⟩ = some c0 ∧ w.cell? ⟨g, 1, none⟩ = some c1 ∧ w.cell? ⟨g, 2, none⟩ = some c2 := ⟨(bc_ h.out 0).trans rfl, (bc_ h.out 1).trans rfl, (bc_ h.out 2).trans rfl⟩
theorem qf3_ {w : World} {g : Nat} {t : TypeId} {cs : Array Value} (h : Aside0 (w.heap[g]? = some (.cells cs t (0, 0)))) : w.frozen? ⟨g, 0, none⟩ = false ∧ w.frozen? ⟨g, 1, none⟩ = false ∧ w.frozen? ⟨g, 2, none⟩ = false := ⟨bf_ h.out 0, bf_ h.out 1, bf_ h.out 2⟩
theorem qz5_ {w : World} {g : Nat} {t : TypeId} {c0 c1 c2 c3 c4 : Value} (h : Aside0 (w.heap[g]? = some (.cells #[c0, c1, c2, c3, c4] t (0, 0)))) : w.cell? ⟨g, 0, none⟩ = some c0 ∧ w.cell? ⟨g, 1, none⟩ = some c1 ∧ w.cell? ⟨g, 2, none⟩ = some c2 ∧ w.cell? ⟨g, 3, none⟩ = some c3 ∧ w.cell? ⟨g, 4, none⟩ = some c4 := ⟨(bc_ h.out 0).trans rfl, (bc_ h.out 1).trans rfl, (bc_ h.out 2).trans rfl, (bc_ h.out 3).trans rfl, (bc_ h.out 4).trans rfl⟩
theorem qf5_ {w : World} {g : Nat} {t : TypeId} {cs : Array Value} (h : Aside0 (w.heap[g]? = some (.cells cs t (0, 0)))) : w.frozen? ⟨g, 0, none⟩ = false ∧ w.frozen? ⟨g, 1, none⟩ = false ∧ w.frozen? ⟨g, 2, none⟩ = false ∧ w.frozen? ⟨g, 3, none⟩ = false ∧ w.frozen? ⟨g, 4, none⟩ = false := ⟨bf_ h.out 0, bf_ h.out 1, bf_ h.out 2, bf_ h.out 3, bf_ h.out 4⟩
theorem qga_ {w W : World} {g : Nat} (hg : g = W.heap.size) (h : Below w.heap.size w W := by repeat (first | (with_reducible first | exact HB.out | apply la_ | apply ln_ | apply ld_ | refine ls_ ?_ (Aside0.out (by assumption))) | exact HB.out)) : Aside0 (w.heap.size ≤ g) := Aside0.mk (hg ▸ a0z h)
theorem qh_ {w W : World} {p : Addr} {v : Value} (HB : Aside0 (Below w.heap.size w W)) (h : w.cell? p = some v) : W.cell? p = some v := (HB.out.cell (World.block_lt_of_cell? w _ h)).trans h
abbrev U : Bool := true
abbrev I : Bool := false
theorem qq_ {P : Prop} (h : P := by first | (go_simp; done) | (go_simp; rfl)) : P := h
section
variable {P : Program} {ops : Array Oper} {Q : Exit → Act → World → Prop} {md : Region.Mode} {S : World → Prop} {ds : List Nat}
theorem qpu_ (i : Nat) (N : Option Tmp) {oi : Oper} {v : Value} {fuel : Nat} {l : Array Bool} {a : Act} {w : World} (l' : Array Bool) {a' : Act} (h : a1v P md ops Q S ds fuel l' a' w)
  (hi : ops[i]? = some oi := by exact rfl) (hN : oi.dst = N := by exact rfl) (hc : anyB md ops l l' i = true := by exact b7k HT_.out (by kernel_rfl)) (hQ : ∀ c a w, Q (.panic c) (a.put oi.dst v) w → Q (.panic c) a w := by exact fun _ _ _ h => h)
  (hy : Yields P ops oi v a := by exact Or.inl ⟨by rfl, by intro w'; go_simp; with_reducible rfl⟩) (ha : a.put N v = a' := by exact qp_) : a1v P md ops Q S ds (fuel + 1) l a w := b9l l' hi hN hc hQ hy ha h
theorem qpv_ (i : Nat) (N : Option Tmp) {oi : Oper} {fuel : Nat} {l : Array Bool} {a : Act} {w : World} (l' : Array Bool) {a' : Act} (h : a1v P md ops Q S ds fuel l' a' w)
  (hi : ops[i]? = some oi := by exact rfl) (hN : oi.dst = N := by exact rfl) (hc : anyB md ops l l' i = true := by exact b7k HT_.out (by kernel_rfl)) (hQ : ∀ c a w, Q (.panic c) (a.put oi.dst undef) w → Q (.panic c) a w := by exact fun _ _ _ h => h)
  (hy : Yields P ops oi undef a := by exact Or.inr ⟨by rfl, rfl⟩) (ha : a.put N undef = a' := by exact qp_) : a1v P md ops Q S ds (fuel + 1) l a w := b9l l' hi hN hc hQ hy ha h
end
section
variable {P : Program} {ops : Array Oper} {rest : List Oper} {o : Oper} {a : Act} {Q : Exit → Act → World → Prop}
theorem qev_ {W : World} (N : Tmp) (cs : Array Value) (t : TypeId)
  (h : ∀ g, g = W.heap.size → ∀ w1, w1.heap[g]? = some (.cells cs t (0, 0)) → Below W.heap.size W w1 → wpList P ops Q rest (a.put o.dst (.pointer (some ⟨g, 0, none⟩))) w1)
  (hd : o.dst = some N := by rfl) (hgd : o.guard = none := by rfl)
  (hrun : (execOp a.eval o).run P W = .ok (.value (.pointer (some ⟨W.heap.size, 0, none⟩))) (W.alloc (.cells cs t (0, 0))) := by first | (go_simp; done) | (go_simp; rfl)) : wpList P ops Q (o :: rest) a W := b7g hgd hd hrun h
end
section
variable {α β : Type} {d : Kd α} {d' : Kd β} {e e' base base' n : Nat} {ok ok' : Nat → Prop} {w W w1 W1 : World} {v u : Value} {xs : List α} {ys : List β}
theorem qel_ {X : Prop} (H : Aside0 X) (ho : d'.R e' w1 W.heap.size ok' v ys) (hb : Below W.heap.size W w1) (h : X → d.R e W base ok u xs := by intro hh; (with_reducible repeat (first | apply Kd.a2n | apply Kd.a2o | apply Kd.a2i)); exact hh) : Aside0 (d.R e w1 base (fun k => ok k ∧ some k ≠ v.ownBlock) u xs) := ⟨Kd.a9i (h H.out) (Kd.a3j ho) hb⟩
theorem qrb_ {X : Prop} (H : Aside0 X) (hb : Below w.heap.size w w1) (h : X → d.R e w base ok v xs := by intro hh; (with_reducible repeat (first | apply Kd.a2n | apply Kd.a2o | apply Kd.a2i)); exact hh) : Aside0 (d.R e w1 base ok v xs) := ⟨Kd.a5w (h H.out) hb⟩
end
theorem am_ {p : Prop} (h : p) : Aside0 p := ⟨h⟩
theorem ot_ {p : Prop} [Decidable p] (h : decide p = true := by first | (with_reducible assumption) | assumption) : p := of_decide_eq_true h
theorem bm_ {α β : Type} {o : Option α} {f : α → Option β} {b : β} (h : o.bind f = some b) : ∃ a, o = some a ∧ f a = some b := Option.bind_eq_some_iff.mp h
theorem si_ {α : Type} {a b : α} (h : some a = some b) : a = b := Option.some.inj h
theorem be_ {b : Bool} (h : ¬ b = true) : b = false := Bool.eq_false_iff.mpr h
theorem qip_ {α : Type} {i : Decidable (true = true)} {A B r : α} (H : @ite α (true = true) i A B = r) : A = r := (if_pos rfl).symm.trans H
theorem qin_ {α : Type} {i : Decidable (false = true)} {A B r : α} (H : @ite α (false = true) i A B = r) : B = r := (if_neg (fun h : false = true => Bool.noConfusion h)).symm.trans H
theorem qid_ {α : Type} {P : Prop} [i : Decidable P] {x : Option α} {r : α} (H : (if P then x else none) = some r) : decide P = true ∧ x = some r := by
  by_cases c : P
  · rw [if_pos c] at H
    exact ⟨decide_eq_true c, H⟩
  · rw [if_neg c] at H
    exact absurd H (by simp)
theorem qnb_ {w W : World} {g G : Nat} {o : Obj} (hg : G = W.heap.size) (H : Aside0 (w.heap[g]? = some o)) (h : w.heap[g]? = some o → W.heap[g]? = some o := by intro hh; (with_reducible repeat (first | refine bn_ ?_ _ | refine bd_ ?_ | refine ba_ ?_ _)); exact hh) : Aside0 (g ≠ G) ∧ Aside0 (G ≠ g) := by
  have k := a3v (h H.out)
  exact ⟨⟨by omega⟩, ⟨by omega⟩⟩
theorem qdj_ {P Q : Prop} {n g : Nat} (a : P) (hp : Aside0 (g ≠ n)) (h : P → g ≠ n → Q := by intro hh hp; (with_reducible repeat (first | refine bn_ ?_ _ | refine bd_ ?_ | refine ba_ ?_ _)); exact b9z hh hp _) : Q := h a hp.out
theorem qse_ {cs cs' : Array Value} {i : Nat} {u : Value} (h : cs.setIfInBounds i u = cs' := by simp only [List.setIfInBounds_toArray, List.set_cons_zero, List.set_cons_succ] <;> rfl) : cs.setIfInBounds i u = cs' := h
theorem qpt_ {w : World} {g : Nat} {t : TypeId} {cs cs' : Array Value} {i : Nat} {u : Value} (h : w.heap[g]? = some (.cells cs t (0, 0))) (e : cs.setIfInBounds i u = cs') : (w.setCell ⟨g, i, none⟩ u).heap[g]? = some (.cells cs' t (0, 0)) := a0g h i u e
theorem qcl_ {w : World} {p : Addr} {v : Value} {n : Nat} {X : Prop} (hw : w.cell? p = some v) (hg : Aside0 (w.heap.size ≤ n)) (h : p.block < w.heap.size → w.heap.size ≤ n → X := by intro this hh; first | exact Nat.ne_of_lt (Nat.lt_of_lt_of_le (by first | rwa [add_block] at this | exact this) hh) | (rw [add_block]; exact Nat.ne_of_lt (Nat.lt_of_lt_of_le (by first | rwa [add_block] at this | exact this) hh)) | (show (Addr.add _ _).block ≠ _; rw [add_block]; exact Nat.ne_of_lt (Nat.lt_of_lt_of_le (by first | rwa [add_block] at this | exact this) hh)) | (dsimp only; exact Nat.ne_of_lt (Nat.lt_of_lt_of_le (by first | rwa [add_block] at this | exact this) hh))) : X := h (World.block_lt_of_cell? _ _ hw) hg.out
section
variable {P : Program} {ops : Array Oper} {Q : Exit → Act → World → Prop} {md : Region.Mode} {S : World → Prop} {ds : List Nat}
theorem a7w (i : Nat) (N : Option Tmp) {oi : Oper} {v : Value} {fuel : Nat} {l : Array Bool} {a : Act} {w : World} (l' : Array Bool) (hS : S w) {a' : Act} (h : a1v P md ops Q S ds fuel l' a' w)
  (hi : ops[i]? = some oi := by exact rfl) (hN : oi.dst = N := by exact rfl) (hc : takeB md ops ds l l' i = true := by exact a5x HT_.out HW_.out (by kernel_rfl)) (hQ : ∀ c a w, Q (.panic c) (a.put oi.dst v) w → Q (.panic c) a w := by exact fun _ _ _ h => h)
  (hy : YieldsIf P ops S oi v a := by exact Or.inl ⟨by rfl, by rintro w' ⟨s0, s1, s2⟩; go_simp; with_reducible rfl⟩) (ha : a.put N v = a' := by exact qp_) : a1v P md ops Q S ds (fuel + 1) l a w := a6q l' hi hN hc hQ hy hS ha h
theorem a6i (i : Nat) (N : Option Tmp) {oi : Oper} {v : Value} {fuel : Nat} {l : Array Bool} {a : Act} {w : World} (l' : Array Bool) (hS : S w) {a' : Act} (h : a1v P md ops Q S ds fuel l' a' w)
  (hi : ops[i]? = some oi := by exact rfl) (hN : oi.dst = N := by exact rfl) (hc : takeB md ops ds l l' i = true := by exact a5x HT_.out HW_.out (by kernel_rfl)) (hQ : ∀ c a w, Q (.panic c) (a.put oi.dst v) w → Q (.panic c) a w := by exact fun _ _ _ h => h)
  (hy : YieldsIf P ops S oi v a := by exact Or.inl ⟨by rfl, by rintro w' ⟨s0, s1, s2, s3, s4, s5⟩; go_simp; with_reducible rfl⟩) (ha : a.put N v = a' := by exact qp_) : a1v P md ops Q S ds (fuel + 1) l a w := a6q l' hi hN hc hQ hy hS ha h
theorem a6x (i : Nat) (N : Option Tmp) {oi : Oper} {v : Value} {fuel : Nat} {l : Array Bool} {a : Act} {w : World} (l' : Array Bool) (hS : S w) {a' : Act} (h : a1v P md ops Q S ds fuel l' a' w)
  (hi : ops[i]? = some oi := by exact rfl) (hN : oi.dst = N := by exact rfl) (hc : takeB md ops ds l l' i = true := by exact a5x HT_.out HW_.out (by kernel_rfl)) (hQ : ∀ c a w, Q (.panic c) (a.put oi.dst v) w → Q (.panic c) a w := by exact fun _ _ _ h => h)
  (hy : YieldsIf P ops S oi v a := by exact Or.inl ⟨by rfl, by rintro w' ⟨s0, s1, s2, s3, s4, s5, s6, s7, s8, s9, s10, s11, s12, s13, s14, s15, s16, s17, s18, s19⟩; go_simp; with_reducible rfl⟩) (ha : a.put N v = a' := by exact qp_) : a1v P md ops Q S ds (fuel + 1) l a w := a6q l' hi hN hc hQ hy hS ha h
theorem b9p (i : Nat) (N : Option Tmp) {oi : Oper} {v : Value} {fuel : Nat} {l : Array Bool} {a : Act} {w : World} (l' : Array Bool) (hS : S w) {a' : Act} (h : a1v P md ops Q S ds fuel l' a' w)
  (hi : ops[i]? = some oi := by exact rfl) (hN : oi.dst = N := by exact rfl) (hc : takeB md ops ds l l' i = true := by exact a5x HT_.out HW_.out (by kernel_rfl)) (hQ : ∀ c a w, Q (.panic c) (a.put oi.dst v) w → Q (.panic c) a w := by exact fun _ _ _ h => h)
  (hy : YieldsIf P ops S oi v a := by exact Or.inl ⟨by rfl, by rintro w' ⟨s0, s1⟩; go_simp; with_reducible rfl⟩) (ha : a.put N v = a' := by exact qp_) : a1v P md ops Q S ds (fuel + 1) l a w := a6q l' hi hN hc hQ hy hS ha h
theorem b3v (i : Nat) (N : Option Tmp) {oi : Oper} {v : Value} {fuel : Nat} {l : Array Bool} {a : Act} {w : World} (l' : Array Bool) (hS : S w) {a' : Act} (h : a1v P md ops Q S ds fuel l' a' w)
  (hi : ops[i]? = some oi := by exact rfl) (hN : oi.dst = N := by exact rfl) (hc : takeB md ops ds l l' i = true := by exact a5x HT_.out HW_.out (by kernel_rfl)) (hQ : ∀ c a w, Q (.panic c) (a.put oi.dst v) w → Q (.panic c) a w := by exact fun _ _ _ h => h)
  (hy : YieldsIf P ops S oi v a := by exact Or.inl ⟨by rfl, by rintro w' ⟨s0, s1, s2, s3, s4⟩; go_simp; with_reducible rfl⟩) (ha : a.put N v = a' := by exact qp_) : a1v P md ops Q S ds (fuel + 1) l a w := a6q l' hi hN hc hQ hy hS ha h
theorem b6l (i : Nat) (N : Option Tmp) {oi : Oper} {v : Value} {fuel : Nat} {l : Array Bool} {a : Act} {w : World} (l' : Array Bool) (hS : S w) {a' : Act} (h : a1v P md ops Q S ds fuel l' a' w)
  (hi : ops[i]? = some oi := by exact rfl) (hN : oi.dst = N := by exact rfl) (hc : takeB md ops ds l l' i = true := by exact a5x HT_.out HW_.out (by kernel_rfl)) (hQ : ∀ c a w, Q (.panic c) (a.put oi.dst v) w → Q (.panic c) a w := by exact fun _ _ _ h => h)
  (hy : YieldsIf P ops S oi v a := by exact Or.inl ⟨by rfl, by rintro w' ⟨s0, s1, s2, s3, s4, s5, s6, s7⟩; go_simp; with_reducible rfl⟩) (ha : a.put N v = a' := by exact qp_) : a1v P md ops Q S ds (fuel + 1) l a w := a6q l' hi hN hc hQ hy hS ha h
theorem b3w (i : Nat) (N : Option Tmp) {oi : Oper} {v : Value} {fuel : Nat} {l : Array Bool} {a : Act} {w : World} (l' : Array Bool) (hS : S w) {a' : Act} (h : a1v P md ops Q S ds fuel l' a' w)
  (hi : ops[i]? = some oi := by exact rfl) (hN : oi.dst = N := by exact rfl) (hc : takeB md ops ds l l' i = true := by exact a5x HT_.out HW_.out (by kernel_rfl)) (hQ : ∀ c a w, Q (.panic c) (a.put oi.dst v) w → Q (.panic c) a w := by exact fun _ _ _ h => h)
  (hy : YieldsIf P ops S oi v a := by exact Or.inl ⟨by rfl, by rintro w' ⟨s0, s1, s2, s3, s4, s5, s6, s7, s8, s9⟩; go_simp; with_reducible rfl⟩) (ha : a.put N v = a' := by exact qp_) : a1v P md ops Q S ds (fuel + 1) l a w := a6q l' hi hN hc hQ hy hS ha h
theorem b0r (i : Nat) (N : Option Tmp) {oi : Oper} {v : Value} {fuel : Nat} {l : Array Bool} {a : Act} {w : World} (l' : Array Bool) (hS : S w) {a' : Act} (h : a1v P md ops Q S ds fuel l' a' w)
  (hi : ops[i]? = some oi := by exact rfl) (hN : oi.dst = N := by exact rfl) (hc : takeB md ops ds l l' i = true := by exact a5x HT_.out HW_.out (by kernel_rfl)) (hQ : ∀ c a w, Q (.panic c) (a.put oi.dst v) w → Q (.panic c) a w := by exact fun _ _ _ h => h)
  (hy : YieldsIf P ops S oi v a := by exact Or.inl ⟨by rfl, by rintro w' ⟨s0, s1, s2, s3, s4, s5, s6⟩; go_simp; with_reducible rfl⟩) (ha : a.put N v = a' := by exact qp_) : a1v P md ops Q S ds (fuel + 1) l a w := a6q l' hi hN hc hQ hy hS ha h
theorem b0s (i : Nat) (N : Option Tmp) {oi : Oper} {v : Value} {fuel : Nat} {l : Array Bool} {a : Act} {w : World} (l' : Array Bool) (hS : S w) {a' : Act} (h : a1v P md ops Q S ds fuel l' a' w)
  (hi : ops[i]? = some oi := by exact rfl) (hN : oi.dst = N := by exact rfl) (hc : takeB md ops ds l l' i = true := by exact a5x HT_.out HW_.out (by kernel_rfl)) (hQ : ∀ c a w, Q (.panic c) (a.put oi.dst v) w → Q (.panic c) a w := by exact fun _ _ _ h => h)
  (hy : YieldsIf P ops S oi v a := by exact Or.inl ⟨by rfl, by rintro w' ⟨s0, s1, s2, s3⟩; go_simp; with_reducible rfl⟩) (ha : a.put N v = a' := by exact qp_) : a1v P md ops Q S ds (fuel + 1) l a w := a6q l' hi hN hc hQ hy hS ha h
end
end Go.Proofs.Ytheibjkjmkanoaa.Given
/- A map whose keys are whole numbers, as a list of pairs in the order in which they came: what make, look-up and store do with it. Conditions: as each theorem states; nothing is ever deleted. -/
namespace Go.Proofs.Ytheibjkjmkanoaa.Given
open Go.RowKit Go.MapKept Go.Proofs.YtheibjkjmkanoaaW.PrintWords Go.Proofs.YtheibjkjmkanoaaW.PrintLast
set_option linter.unusedVariables false
set_option linter.unusedSimpArgs false
section
variable {α : Type}
def a5l (enc : α → Value) : List (Int × α) → Nat → List MapEntry
 | [], _ => []
 | p :: t, j => { key := .int .i64 p.1, val := enc p.2, born := j } :: a5l enc t (j + 1)
def a1i (enc : α → Value) (M : List (Int × α)) : Obj := .map (a5l enc M 0).toArray M.length
def mput : List (Int × α) → Int → α → List (Int × α)
 | [], k, v => [(k, v)]
 | p :: t, k, v => if p.1 = k then (p.1, v) :: t else p :: mput t k v
def a3i : List (Int × α) → Int → Option α
 | [], _ => none
 | p :: t, k => if p.1 = k then some p.2 else a3i t k
theorem b0b {k : Int} {v : α} : ∀ {M : List (Int × α)}, a3i M k = none → (mput M k v).length = M.length + 1
 | [], _ => rfl
 | p :: t, h => by
  unfold a3i at h
  split at h
  ·simp at h
  ·rename_i c
   simp [mput, c, b0b h]
theorem b0c {k : Int} {v w : α} : ∀ {M : List (Int × α)}, a3i M k = some w → (mput M k v).length = M.length
 | [], h => by simp [a3i] at h
 | p :: t, h => by
  unfold a3i at h
  split at h
  ·rename_i c
   simp [mput, c]
  ·rename_i c
   simp [mput, c, b0c h]
theorem b0d (enc : α → Value) {k : Int} : ∀ {M : List (Int × α)} (j i : Nat), a3i M k = none → Instr.findNow (.int .i64) (.int .i64 k) (a5l enc M j) i = some none
 | [], j, i, _ => rfl
 | p :: t, j, i, h => by
  unfold a3i at h
  split at h
  ·simp at h
  ·rename_i c
   have h1 := b0d enc (j + 1) (i + 1) h
   have c2 : (k == p.1) = false := beq_false_of_ne (fun h => c h.symm)
   simp [a5l, Instr.findNow, Instr.sameNow, c2, h1]
theorem b3i (enc : α → Value) {k : Int} (v : α) : ∀ {M : List (Int × α)} (j : Nat), a3i M k = none → (a5l enc (mput M k v) j) = a5l enc M j ++ [{ key := .int .i64 k, val := enc v, born := j + M.length }]
 | [], j, _ => rfl
 | p :: t, j, h => by
  unfold a3i at h
  split at h
  ·simp at h
  ·rename_i c
   simp only [mput, if_neg c, a5l, b3i enc v (j + 1) h, List.cons_append, List.length_cons]
   rw [show j + 1 + t.length = j + (t.length + 1) by omega]
theorem b0e (enc : α → Value) {k : Int} {v0 : α} (v : α) : ∀ {M : List (Int × α)} (j i : Nat), a3i M k = some v0 → ∃ q, Instr.findNow (.int .i64) (.int .i64 k) (a5l enc M j) i = some (some (i + q, enc v0)) ∧ ((a5l enc M j)[q]?.map (·.key)) = some (.int .i64 k) ∧
   (a5l enc M j).modify q (fun e => { e with key := .int .i64 k, val := enc v }) = a5l enc (mput M k v) j
 | [], j, i, h => by simp [a3i] at h
 | p :: t, j, i, h => by
  unfold a3i at h
  split at h
  ·rename_i c
   obtain rfl : p.2 = v0 := by simpa using h
   refine ⟨0, by simp [a5l, Instr.findNow, Instr.sameNow, c], by simp [a5l, c], ?_⟩
   simp [a5l, mput, c]
  ·rename_i c
   obtain ⟨q, h1, h2, h3⟩ := b0e enc v (j + 1) (i + 1) h
   have c2 : (k == p.1) = false := beq_false_of_ne (fun h => c h.symm)
   refine ⟨q + 1, ?_, ?_, ?_⟩
   ·rw [show i + (q + 1) = i + 1 + q by omega]
    simp [a5l, Instr.findNow, Instr.sameNow, c2, h1]
   ·simpa [a5l] using h2
   ·simp only [a5l, mput, if_neg c, List.modify_succ_cons, h3]
end
section
variable {α : Type} {enc : α → Value} {P : Program} {w : World} {T K E : TypeId} {g : Nat} {M : List (Int × α)}
theorem b3j (hT : P.underlying T = some (.map K E)) (hK : P.underlying K = some (.int .i64)) {z : Value} (hz : (zeroValue E).run P w = .ok z w) (hb : w.heap[g]? = some (a1i enc M)) (k : Int) (c : Bool) :
  (Instr.lookup T (.map (some g)) (.int .i64 k) c).run P w = .ok (if c then .tuple #[((a3i M k).map enc).getD z, .bool (a3i M k).isSome] else ((a3i M k).map enc).getD z) w := by
 have hk : IsKey (.int .i64) (.int .i64 k) := by simp [IsKey]
 have hc : ∀ e, (Instr.checkKey e 10000 K (.int .i64 k)).run P w = .ok () w := fun e => MapKept.run_checkKey hK hk e 9999
 have hg : (getObj g).run P w = .ok (.map (a5l enc M 0).toArray M.length) w := MapKept.run_getObj_map hb
 cases hm : a3i M k with
 | none =>
  have hf := MapKept.run_findKey (P := P) (w := w) hK (b0d enc (k := k) 0 0 hm)
  simp [Instr.lookup, run_underlying hT, hg, hc, hf, hz, Result.andThen]
 | some v =>
  obtain ⟨q, h1, _⟩ := b0e enc v (k := k) 0 0 hm
  have hf := MapKept.run_findKey (P := P) (w := w) hK h1
  simp [Instr.lookup, run_underlying hT, hg, hc, hf, hz, Result.andThen]
theorem b8r (hT : P.underlying T = some (.map K E)) (hK : P.underlying K = some (.int .i64)) (hb : w.heap[g]? = some (a1i enc M)) (k : Int) (v : α) :
  (Instr.mapUpdate T (.map (some g)) (.int .i64 k) (enc v)).run P w = .ok () { w with heap := w.heap.setIfInBounds g (a1i enc (mput M k v)) } := by
 have hk : IsKey (.int .i64) (.int .i64 k) := by simp [IsKey]
 have hc : (Instr.checkKey false 10000 K (.int .i64 k)).run P w = .ok () w := MapKept.run_checkKey hK hk _ 9999
 have hg : (getObj g).run P w = .ok (.map (a5l enc M 0).toArray M.length) w := MapKept.run_getObj_map hb
 have hs : ∀ o', (setObj g o').run P w = .ok () { w with heap := w.heap.setIfInBounds g o' } := fun o' => MapKept.run_setObj_map o' hb
 cases hm : a3i M k with
 | none =>
  have h1 := b0d enc (k := k) 0 0 hm
  have h2 := b3i enc v (k := k) 0 hm
  have hf := MapKept.run_findKey (P := P) (w := w) hK h1
  simp [Instr.mapUpdate, run_underlying hT, hg, hc, hf, hs, Result.andThen, a1i, h2, b0b hm]
 | some v0 =>
  obtain ⟨q, h1, h2, h3⟩ := b0e enc v (k := k) 0 0 hm
  have hf := MapKept.run_findKey (P := P) (w := w) hK h1
  have hq : (a5l enc M 0)[q]?.map (·.key) = some (.int .i64 k) := h2
  simp [Instr.mapUpdate, run_underlying hT, hg, hc, hf, hs, Result.andThen, a1i, b0c hm, Instr.keyThatStays, hq, Instr.sameBits, ← h3]
end
def b6m {α : Type} (d : α) (M : List (Int × α)) (k : Int) : α := (a3i M k).getD d
def mhas {α : Type} (M : List (Int × α)) (k : Int) : Bool := (a3i M k).isSome
def a1z (M : List (Int × Int)) (k : Int) : Int := (a3i M k).getD 0
section
variable {P : Program} {ops : Array Oper} {rest : List Oper} {o : Oper} {a : Act} {Q : Exit → Act → World → Prop}
theorem b3k {α : Type} (enc : α → Value) {W : World} (hgd : o.guard = none) {N : Tmp} (_hd : o.dst = some N) {T : TypeId} (ho : o.op = .makeMap T none)
  (h : ∀ g, g = W.heap.size → ∀ w1, w1.heap[g]? = some (a1i enc []) → Below W.heap.size W w1 → wpList P ops Q rest (a.put o.dst (.map (some g))) w1) : wpList P ops Q (o :: rest) a W := by
 have hrun : (execOp a.eval o).run P W = .ok (.value (.map (some W.heap.size))) (W.alloc (a1i enc [])) := by
  simp [execOp, ho, Instr.makeMap, newObj, a1i, a5l, go_sem]
  try rfl
 exact Kd.a8b hgd hrun (h _ rfl _ (b0n W _) (la_ (Below.refl _ _) _))
theorem a7x {α : Type} {enc : α → Value} {W : World} (hgd : o.guard = none) {N : Tmp} (_hd : o.dst = some N) {T K E : TypeId} {m x : Operand} {c : Bool} (ho : o.op = .lookup T m x c) {g : Nat} {M : List (Int × α)} {k : Int} {z : Value}
  (hT : P.underlying T = some (.map K E)) (hK : P.underlying K = some (.int .i64)) (hz : (zeroValue E).run P W = .ok z W) (hb : W.heap[g]? = some (a1i enc M)) (hm : a.eval m = .map (some g)) (hx : a.eval x = .int .i64 k)
  (h : wpList P ops Q rest (a.put o.dst (if c then .tuple #[((a3i M k).map enc).getD z, .bool (a3i M k).isSome] else ((a3i M k).map enc).getD z)) W) : wpList P ops Q (o :: rest) a W := by
 have hrun : (execOp a.eval o).run P W = .ok (.value (if c then .tuple #[((a3i M k).map enc).getD z, .bool (a3i M k).isSome] else ((a3i M k).map enc).getD z)) W := by
  simp [execOp, ho, hm, hx, b3j hT hK hz hb k c, Result.andThen]
 exact Kd.a8b hgd hrun h
theorem a8o {α : Type} {enc : α → Value} {d : α} {W : World} (hgd : o.guard = none) {N : Tmp} (hd : o.dst = some N) {T K E : TypeId} {m x : Operand} (ho : o.op = .lookup T m x true) {g : Nat} {M : List (Int × α)} {k : Int}
  (hT : P.underlying T = some (.map K E)) (hK : P.underlying K = some (.int .i64)) (hz : (zeroValue E).run P W = .ok (enc d) W) (hb : W.heap[g]? = some (a1i enc M)) (hm : a.eval m = .map (some g)) (hx : a.eval x = .int .i64 k)
  (h : wpList P ops Q rest (a.put o.dst (.tuple #[enc (b6m d M k), .bool (mhas M k)])) W) : wpList P ops Q (o :: rest) a W := by
 refine a7x hgd hd ho hT hK hz hb hm hx ?_
 have e : ((a3i M k).map enc).getD (enc d) = enc (b6m d M k) := by unfold b6m; cases a3i M k <;> rfl
 rw [if_pos rfl, e]
 exact h
theorem b0f {W : World} (hgd : o.guard = none) {N : Tmp} (hd : o.dst = some N) {T K E : TypeId} {m x : Operand} (ho : o.op = .lookup T m x false) {g : Nat} {M : List (Int × Int)} {k : Int}
  (hT : P.underlying T = some (.map K E)) (hK : P.underlying K = some (.int .i64)) (hz : (zeroValue E).run P W = .ok (.int .i64 0) W) (hb : W.heap[g]? = some (a1i (Value.int .i64) M)) (hm : a.eval m = .map (some g)) (hx : a.eval x = .int .i64 k)
  (h : wpList P ops Q rest (a.put o.dst (.int .i64 (a1z M k))) W) : wpList P ops Q (o :: rest) a W := by
 refine a7x hgd hd ho hT hK hz hb hm hx ?_
 have e : ((a3i M k).map (Value.int .i64)).getD (.int .i64 0) = .int .i64 (a1z M k) := by unfold a1z; cases a3i M k <;> rfl
 rw [if_neg (by simp), e]
 exact h
end
section
variable {α β : Type} {d : Kd α} {e base : Nat} {ok : Nat → Prop} {w W w1 w2 : World} {v : Value} {xs : List α}
theorem a8u {γ : Type} {enc : γ → Value} {M : List (Int × γ)} {g : Nat} (h : d.R e W base ok v xs) (hb : W.heap[g]? = some (a1i enc M)) : some g ≠ v.ownBlock := fun e_ => by
 have hk := (Kd.a6m h).1 g e_.symm
 obtain ⟨q, _, cs, hc⟩ := hk.2.2.2
 rw [hb] at hc
 unfold a1i at hc
 cases hc
theorem a0e {w : World} {g : Nat} {o : Obj} (h : w.heap[g]? = some o) {p : Addr} (hp : g ≠ p.block) (u : Value) : (w.setCell p u).heap[g]? = some o := (Below.heap_setCell w p u g hp).trans h
theorem b0g {g : Nat} (h : Below w.heap.size w W) (hg : W.grownBy w2 (some g)) (hge : w.heap.size ≤ g) : Below w.heap.size w w2 :=
 Below.grown h hg h.size (fun k hk => by obtain rfl : g = k := Option.some.inj hk; exact hge)
end
theorem a7i (w : World) : (zeroValue 3).run Try.prog w = .ok (.int .i64 0) w := by kernel_rfl
end Go.Proofs.Ytheibjkjmkanoaa.Given
