/- Words that the kit's print.sh printed, in a copy without what is not used. Conditions: as_ each theorem states. -/
import Derived.Test.YtheibjkjmkanoaaWTab
import Derived.Test.YtheibjkjmkanoaaWAt
namespace Go.Proofs.YtheibjkjmkanoaaW.PrintLast
def up (b : Nat → Bool) (i : Nat) : Nat → Bool := fun j => if j = i then true else b j
section
variable {P : Program} {ops : Array Oper} {Q : Exit → Act → World → Prop} {md : Region.Mode} {T : Bool × List (List Nat × List Nat)} {B : List Nat} {O : List Nat} {b : Nat → Bool} {i j n : Nat}
end
end Go.Proofs.YtheibjkjmkanoaaW.PrintLast
namespace Go.Proofs.YtheibjkjmkanoaaW.PrintWords
open Go.RowKit
end Go.Proofs.YtheibjkjmkanoaaW.PrintWords
namespace Go.Proofs.YtheibjkjmkanoaaW.PrintLast
section
variable {ops : Array Oper} {a : Act} {o og : Oper} {g : Nat} {t : Tmp} {u : Bool}
end
end Go.Proofs.YtheibjkjmkanoaaW.PrintLast
