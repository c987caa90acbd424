/- The order of the assignments: without some, and with one behind. Conditions: as each theorem states. -/
import Derived.Test.YtfbgkcadnmcakaaClA
namespace Go.Proofs.Ytfbgkcadnmcakaa.Cl
open Go.RowKit Go.Proofs.YtfbgkcadnmcakaaW.PrintWords Go.Proofs.Ytfbgkcadnmcakaa.Given Go.Proofs.Ytfbgkcadnmcakaa.Px
set_option linter.unusedVariables false
set_option linter.unusedSimpArgs false
theorem b1q {x : S26} : ∀ {l : List S26}, (∀ y ∈ l, x.f3 ≤ y.f3) → ins1 x l = x :: l
  | [], _ => rfl
  | y :: t, h => by rw [ins1, if_pos (h y List.mem_cons_self)]
theorem a9g (p : S26 → Bool) {x : S26} (hx : p x = true) : ∀ {l : List S26}, Ord l → (ins1 x l).filter p = ins1 x (l.filter p)
  | [], _ => by rw [ins1, List.filter_cons, if_pos hx]; rfl
  | y :: t, h => by
    have h' := List.pairwise_cons.mp h
    rw [ins1]
    by_cases c : x.f3 ≤ y.f3
    · rw [if_pos c, List.filter_cons, if_pos hx, b1q]
      intro z hz
      rcases List.mem_cons.mp (List.mem_filter.mp hz).1 with e | e
      · rw [e]; exact c
      · exact Int.le_trans c (h'.1 z e)
    · rw [if_neg c, List.filter_cons, a9g p hx h'.2, List.filter_cons]
      by_cases d : p y = true
      · rw [if_pos d, if_pos d, ins1, if_neg c]
      · rw [if_neg d, if_neg d]
theorem a9h (p : S26 → Bool) {x : S26} (hx : ¬ p x = true) : ∀ {l : List S26}, (ins1 x l).filter p = l.filter p
  | [] => by rw [ins1, List.filter_cons, if_neg hx]
  | y :: t => by
    rw [ins1]
    split
    · rw [List.filter_cons, if_neg hx]
    · rw [List.filter_cons, a9h p hx, List.filter_cons]
theorem a5z (p : S26 → Bool) : ∀ l : List S26, a3k (l.filter p) = (a3k l).filter p
  | [] => rfl
  | x :: t => by
    rw [a3k, List.filter_cons]
    by_cases c : p x = true
    · rw [if_pos c, a9g p c (a6h t), a3k, a5z p t]
    · rw [if_neg c, a9h p c, a5z p t]
theorem a9i {x z : S26} (hx : x.f3 ≤ z.f3) : ∀ l : List S26, ins1 x (l ++ [z]) = ins1 x l ++ [z]
  | [] => by
    show (if x.f3 ≤ z.f3 then _ else _) = _
    rw [if_pos hx]
    rfl
  | y :: t => by
    rw [List.cons_append, ins1, ins1]
    split
    · rfl
    · rw [a9i hx t]; rfl
theorem a8k {z : S26} : ∀ {l : List S26}, (∀ x ∈ l, x.f3 ≤ z.f3) → a3k (l ++ [z]) = a3k l ++ [z]
  | [], _ => rfl
  | x :: t, h => by
    rw [List.cons_append, a3k, a8k (fun y hy => h y (List.mem_cons_of_mem _ hy)), a9i (h x List.mem_cons_self), a3k]
def ofB (id day : Int) (x : S26) : Bool := decide (x.f0 = id ∧ x.f3 ≤ day)
theorem a6a (id day : Int) : ∀ (who : Int) (l : List S26), a4m id day who (l.filter (ofB id day)) = a4m id day who l
  | who, [] => rfl
  | who, x :: t => by
    rw [List.filter_cons]
    by_cases c : ofB id day x = true
    · rw [if_pos c]
      exact a6a id day _ t
    · rw [if_neg c, a6a id day who t]
      have e : hstep id day who x = who := by
        unfold hstep
        rw [if_neg]
        intro h
        apply c
        unfold ofB
        rw [decide_eq_true_eq]
        exact ⟨h.1, h.2.1⟩
      show _ = a4m id day (hstep id day who x) t
      rw [e]
theorem a7k (id day who : Int) (l : List S26) : a4m id day who (a3k (l.filter (ofB id day))) = a4m id day who (a3k l) := by
  rw [a5z, a6a]
theorem b0o (id day who : Int) (l : List S26) (z : S26) (h0 : z.f0 = id) (h3 : z.f3 = day) : a4m id day who (a3k (l ++ [z])) = hstep id day (a4m id day who (a3k l)) z := by
  rw [← a7k id day who (l ++ [z]), List.filter_append]
  have e : [z].filter (ofB id day) = [z] := by
    rw [List.filter_cons, if_pos]
    · rfl
    · unfold ofB
      rw [decide_eq_true_eq]
      exact ⟨h0, by omega⟩
  rw [e, a8k]
  · rw [← a7k id day who l]
    unfold a4m
    rw [List.foldl_append]
    rfl
  · intro x hx
    have := (List.mem_filter.mp hx).2
    unfold ofB at this
    rw [decide_eq_true_eq] at this
    omega
theorem b1r {p : S26 → Bool} {l : List S26} (h : okA l = true) : okA (l.filter p) = true := by
  unfold okA at *
  rw [Bool.and_eq_true, decide_eq_true_eq, List.all_eq_true] at *
  exact ⟨Nat.le_trans (List.length_filter_le p l) h.1, fun x hx => h.2 x (List.mem_filter.mp hx).1⟩
end Go.Proofs.Ytfbgkcadnmcakaa.Cl
