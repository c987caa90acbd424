/- The order of the assignments: without some, and with one behind. Conditions: as each theorem states. -/
import Derived.Test.YtfbgkcadnmcakaaClA
namespace Go.Proofs.Ytfbgkcadnmcakaa.Cl
open Go.RowKit Go.Proofs.YtfbgkcadnmcakaaW.PrintWords Go.Proofs.Ytfbgkcadnmcakaa.Given Go.Proofs.Ytfbgkcadnmcakaa.Px
set_option linter.unusedVariables false
set_option linter.unusedSimpArgs false
theorem b3h (p : S26 → Bool) {x : S26} (hx : ¬ p x = true) : ∀ {l : List S26}, (ins1 x l).filter p = l.filter p
  | [] => by rw [ins1, List.filter_cons, if_neg hx]
  | y :: t => by
    rw [ins1]
    split
    · rw [List.filter_cons, if_neg hx]
    · rw [List.filter_cons, b3h p hx, List.filter_cons]
theorem a9j {x z : S26} (hx : x.f3 ≤ z.f3) : ∀ l : List S26, ins1 x (l ++ [z]) = ins1 x l ++ [z]
  | [] => by
    show (if x.f3 ≤ z.f3 then _ else _) = _
    rw [if_pos hx]
    rfl
  | y :: t => by
    rw [List.cons_append, ins1, ins1]
    split
    · rfl
    · rw [a9j hx t]; rfl
theorem a8l {z : S26} : ∀ {l : List S26}, (∀ x ∈ l, x.f3 ≤ z.f3) → a2x (l ++ [z]) = a2x l ++ [z]
  | [], _ => rfl
  | x :: t, h => by
    rw [List.cons_append, a2x, a8l (fun y hy => h y (List.mem_cons_of_mem _ hy)), a9j (h x List.mem_cons_self), a2x]
end Go.Proofs.Ytfbgkcadnmcakaa.Cl
