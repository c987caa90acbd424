/- Small lemmas that our printed contracts lean on. Conditions: as each theorem states. -/
import Derived.Test.YtfbgkcadnmcakaaProg
import Derived.Test.YtfbgkcadnmcakaaWWords
import Derived.Test.YtfbgkcadnmcakaaWLast
import Derived.Test.YtfbgkcadnmcakaaWTab
namespace Go.Proofs.Ytfbgkcadnmcakaa.Given
open Go.RowKit Go.Proofs.YtfbgkcadnmcakaaW.PrintWords Go.Proofs.YtfbgkcadnmcakaaW.PrintLast
section
variable {P : Program} {ops : Array Oper} {Q : Exit → Act → World → Prop}
theorem a5r {oi : Oper} {N : Option Tmp} {a : Act} {w : World} {K : Act → World → Prop} {f : FuncId} {fn : Func} {o : Operand} {as_ : Array Operand} {ts : Array TypeId} (hf : P.funcs[f]? = some fn) (hname : (fn.name == "runtime.NumGoroutine") = false) (hb : fn.body.isSome = true) (args : Array Value)
  (hw : Region.wanted oi (yielded ops a.tmps) = true) (hN : oi.dst = N) (hop : oi.op = .call { callee := .value o, args := as_, argTypes := ts }) (hcal : a.eval o = .func (.func f) #[] #[]) (hargs : as_.map a.eval = args)
  (h : Calls P f args w fun e w' => ∃ v, e = .returned v ∧ K (a.put N v) w') : if Region.wanted oi (yielded ops a.tmps) = true then Oper.wp P oi a w K Q else K (a.put N undef) w := by
 refine call_ f args hw hN ?_ h
 have he := a8y hf hname hb args w
 unfold execOp
 simp [hop, resolve, Deferred.ofValue, invoke, hcal, hargs, he]
end
theorem qb_ {P : Prop} (h : P := by repeat (first | (with_reducible first | exact HB.out | apply la_ | apply ln_ | apply ld_ | refine ls_ ?_ (Aside0.out (by assumption))) | exact HB.out)) : P := h
theorem qr_ {P Q : Prop} (H : Aside0 P) (h : P → Q := by intro hh; (with_reducible repeat (first | apply Kd.a0n | apply Kd.a0o | apply Kd.a0m)); exact hh) : Q := h H.out
theorem qk_ {P Q : Prop} (H : Aside0 P) (h : P → Q := by intro hh; (with_reducible repeat (first | refine bn_ ?_ _ | refine bd_ ?_ | refine ba_ ?_ _)); exact hh) : Q := h H.out
theorem qd_ {P Q : Prop} (a : P) (h : P → Q := by intro hh; (with_reducible repeat (first | refine bn_ ?_ _ | refine bd_ ?_ | refine ba_ ?_ _)); exact hh) : Q := h a
theorem qc_ {P Q : Prop} (H : Aside0 P) (h : P → Q := by intro hh; repeat (first | exact (Kd.a6s hh HB.out) | (with_reducible refine Kd.a5b ?_ _) | (with_reducible refine Kd.a5c ?_ _) | (with_reducible refine Kd.a5p ?_))) : Q := h H.out
theorem qv_ {P Q : Prop} (H : P) (h : P → Q := by intro hh; repeat (first | exact hh | (with_reducible refine Kd.a5b ?_ _) | (with_reducible refine Kd.a5c ?_ _) | (with_reducible refine Kd.a5p ?_))) : Q := h H
theorem ql_ {P : Prop} (h : P := by (try simp only [List.map_toArray, List.map_cons, List.map_nil]); first | done | rfl | (simp only [List.length_drop, List.length_take]; rfl)) : P := h
theorem qs_ {P : Prop} (h : P := by first | rfl | (simp; done) | (simp [*]; done)) : P := h
theorem qx_ {P : Prop} (h : P := by first | rfl | (simp [a9e, a9f] <;> rfl) | (simp [*, a9e, a9f] <;> rfl)) : P := h
theorem qa_ {P : Prop} (h : P := by first | (with_reducible assumption) | assumption) : P := h
theorem qy_ {P : Prop} (h : P := by repeat (first | exact a3j.refl _ | apply a3j.step)) : P := h
theorem qo_ {P : Prop} (h : P := by first | omega | exact Nat.le_refl _) : P := h
theorem qp_ {P : Prop} (h : P := by simp only [Act.put, List.setIfInBounds_toArray, List.set_cons_zero, List.set_cons_succ, a3k, a4i]; rfl) : P := h
theorem qkb_ {w w' w1 : World} {g : Nat} {o : Obj} (H : Aside0 (w.heap[g]? = some o)) (hb : Below w'.heap.size w' w1) (h : w.heap[g]? = some o → w'.heap[g]? = some o := by intro hh; (with_reducible repeat (first | refine bn_ ?_ _ | refine bd_ ?_ | refine ba_ ?_ _)); exact hh) : Aside0 (w1.heap[g]? = some o) := Aside0.mk (a2v (h H.out) hb)
theorem qbs_ {w W w2 : World} (hb : Below W.heap.size W w2) (h : Below w.heap.size w W := by repeat (first | (with_reducible first | exact HB.out | apply la_ | apply ln_ | apply ld_ | refine ls_ ?_ (Aside0.out (by assumption))) | exact HB.out)) : Aside0 (Below w.heap.size w w2) := Aside0.mk (b1n h hb)
theorem qz2_ {w : World} {g : Nat} {t : TypeId} {c0 c1 : Value} (h : Aside0 (w.heap[g]? = some (.cells #[c0, c1] t (0, 0)))) : w.cell? ⟨g, 0, none⟩ = some c0 ∧ w.cell? ⟨g, 1, none⟩ = some c1 := ⟨(bc_ h.out 0).trans rfl, (bc_ h.out 1).trans rfl⟩
theorem qf2_ {w : World} {g : Nat} {t : TypeId} {cs : Array Value} (h : Aside0 (w.heap[g]? = some (.cells cs t (0, 0)))) : w.frozen? ⟨g, 0, none⟩ = false ∧ w.frozen? ⟨g, 1, none⟩ = false := ⟨bf_ h.out 0, bf_ h.out 1⟩
theorem qz4_ {w : World} {g : Nat} {t : TypeId} {c0 c1 c2 c3 : Value} (h : Aside0 (w.heap[g]? = some (.cells #[c0, c1, c2, c3] t (0, 0)))) : w.cell? ⟨g, 0, none⟩ = some c0 ∧ w.cell? ⟨g, 1, none⟩ = some c1 ∧ w.cell? ⟨g, 2, none⟩ = some c2 ∧ w.cell? ⟨g, 3, none⟩ = some c3 := ⟨(bc_ h.out 0).trans rfl, (bc_ h.out 1).trans rfl, (bc_ h.out 2).trans rfl, (bc_ h.out 3).trans rfl⟩
theorem qf4_ {w : World} {g : Nat} {t : TypeId} {cs : Array Value} (h : Aside0 (w.heap[g]? = some (.cells cs t (0, 0)))) : w.frozen? ⟨g, 0, none⟩ = false ∧ w.frozen? ⟨g, 1, none⟩ = false ∧ w.frozen? ⟨g, 2, none⟩ = false ∧ w.frozen? ⟨g, 3, none⟩ = false := ⟨bf_ h.out 0, bf_ h.out 1, bf_ h.out 2, bf_ h.out 3⟩
theorem qz6_ {w : World} {g : Nat} {t : TypeId} {c0 c1 c2 c3 c4 c5 : Value} (h : Aside0 (w.heap[g]? = some (.cells #[c0, c1, c2, c3, c4, c5] t (0, 0)))) : w.cell? ⟨g, 0, none⟩ = some c0 ∧ w.cell? ⟨g, 1, none⟩ = some c1 ∧ w.cell? ⟨g, 2, none⟩ = some c2 ∧ w.cell? ⟨g, 3, none⟩ = some c3 ∧ w.cell? ⟨g, 4, none⟩ = some c4 ∧ w.cell? ⟨g, 5, none⟩ = some c5 := ⟨(bc_ h.out 0).trans rfl, (bc_ h.out 1).trans rfl, (bc_ h.out 2).trans rfl, (bc_ h.out 3).trans rfl, (bc_ h.out 4).trans rfl, (bc_ h.out 5).trans rfl⟩
theorem qf6_ {w : World} {g : Nat} {t : TypeId} {cs : Array Value} (h : Aside0 (w.heap[g]? = some (.cells cs t (0, 0)))) : w.frozen? ⟨g, 0, none⟩ = false ∧ w.frozen? ⟨g, 1, none⟩ = false ∧ w.frozen? ⟨g, 2, none⟩ = false ∧ w.frozen? ⟨g, 3, none⟩ = false ∧ w.frozen? ⟨g, 4, none⟩ = false ∧ w.frozen? ⟨g, 5, none⟩ = false := ⟨bf_ h.out 0, bf_ h.out 1, bf_ h.out 2, bf_ h.out 3, bf_ h.out 4, bf_ h.out 5⟩
theorem qga_ {w W : World} {g : Nat} (hg : g = W.heap.size) (h : Below w.heap.size w W := by repeat (first | (with_reducible first | exact HB.out | apply la_ | apply ln_ | apply ld_ | refine ls_ ?_ (Aside0.out (by assumption))) | exact HB.out)) : Aside0 (w.heap.size ≤ g) := Aside0.mk (hg ▸ a1s h)
theorem qh_ {w W : World} {p : Addr} {v : Value} (HB : Aside0 (Below w.heap.size w W)) (h : w.cell? p = some v) : W.cell? p = some v := (HB.out.cell (World.block_lt_of_cell? w _ h)).trans h
abbrev o_ : Bool := true
abbrev i_ : Bool := false
theorem qq_ {P : Prop} (h : P := by first | (go_simp; done) | (go_simp; rfl)) : P := h
section
variable {P : Program} {ops : Array Oper} {Q : Exit → Act → World → Prop} {md : Region.Mode} {S : World → Prop} {ds : List Nat}
theorem qpu_ (i : Nat) (N : Option Tmp) {oi : Oper} {v : Value} {fuel : Nat} {l : Array Bool} {a : Act} {w : World} (l' : Array Bool) {a' : Act} (h : a1u P md ops Q S ds fuel l' a' w)
  (hi : ops[i]? = some oi := by exact rfl) (hN : oi.dst = N := by exact rfl) (hc : anyB md ops l l' i = true := by exact b2j HT_.out (by kernel_rfl)) (hQ : ∀ c a w, Q (.panic c) (a.put oi.dst v) w → Q (.panic c) a w := by exact fun _ _ _ h => h)
  (hy : Yields P ops oi v a := by exact Or.inl ⟨by rfl, by intro w'; go_simp; with_reducible rfl⟩) (ha : a.put N v = a' := by exact qp_) : a1u P md ops Q S ds (fuel + 1) l a w := a7x l' hi hN hc hQ hy ha h
theorem qpv_ (i : Nat) (N : Option Tmp) {oi : Oper} {fuel : Nat} {l : Array Bool} {a : Act} {w : World} (l' : Array Bool) {a' : Act} (h : a1u P md ops Q S ds fuel l' a' w)
  (hi : ops[i]? = some oi := by exact rfl) (hN : oi.dst = N := by exact rfl) (hc : anyB md ops l l' i = true := by exact b2j HT_.out (by kernel_rfl)) (hQ : ∀ c a w, Q (.panic c) (a.put oi.dst undef) w → Q (.panic c) a w := by exact fun _ _ _ h => h)
  (hy : Yields P ops oi undef a := by exact Or.inr ⟨by rfl, rfl⟩) (ha : a.put N undef = a' := by exact qp_) : a1u P md ops Q S ds (fuel + 1) l a w := a7x l' hi hN hc hQ hy ha h
end
section
variable {P : Program} {ops : Array Oper} {rest : List Oper} {o : Oper} {a : Act} {Q : Exit → Act → World → Prop}
theorem qev_ {W : World} (N : Tmp) (cs : Array Value) (t : TypeId)
  (h : ∀ g, g = W.heap.size → ∀ w1, w1.heap[g]? = some (.cells cs t (0, 0)) → Below W.heap.size W w1 → wpList P ops Q rest (a.put o.dst (.pointer (some ⟨g, 0, none⟩))) w1)
  (hd : o.dst = some N := by rfl) (hgd : o.guard = none := by rfl)
  (hrun : (execOp a.eval o).run P W = .ok (.value (.pointer (some ⟨W.heap.size, 0, none⟩))) (W.alloc (.cells cs t (0, 0))) := by first | (go_simp; done) | (go_simp; rfl)) : wpList P ops Q (o :: rest) a W := b2f hgd hd hrun h
end
section
variable {α β : Type} {d : Kd α} {d' : Kd β} {e e' base base' n : Nat} {ok ok' : Nat → Prop} {w W w1 W1 : World} {v u : Value} {xs : List α} {ys : List β}
theorem qel_ {X : Prop} (H : Aside0 X) (ho : d'.R e' w1 W.heap.size ok' v ys) (hb : Below W.heap.size W w1) (h : X → d.R e W base ok u xs := by intro hh; (with_reducible repeat (first | apply Kd.a0n | apply Kd.a0o | apply Kd.a0m)); exact hh) : Aside0 (d.R e w1 base (fun k => ok k ∧ some k ≠ v.ownBlock) u xs) := ⟨Kd.b3g (h H.out) (Kd.b2b ho) hb⟩
theorem qrb_ {X : Prop} (H : Aside0 X) (hb : Below w.heap.size w w1) (h : X → d.R e w base ok v xs := by intro hh; (with_reducible repeat (first | apply Kd.a0n | apply Kd.a0o | apply Kd.a0m)); exact hh) : Aside0 (d.R e w1 base ok v xs) := ⟨Kd.a3f (h H.out) hb⟩
end
theorem am_ {p : Prop} (h : p) : Aside0 p := ⟨h⟩
theorem ot_ {p : Prop} [Decidable p] (h : decide p = true := by first | (with_reducible assumption) | assumption) : p := of_decide_eq_true h
theorem bm_ {α β : Type} {o : Option α} {f : α → Option β} {b : β} (h : o.bind f = some b) : ∃ a, o = some a ∧ f a = some b := Option.bind_eq_some_iff.mp h
theorem si_ {α : Type} {a b : α} (h : some a = some b) : a = b := Option.some.inj h
theorem be_ {b : Bool} (h : ¬ b = true) : b = false := Bool.eq_false_iff.mpr h
end Go.Proofs.Ytfbgkcadnmcakaa.Given
