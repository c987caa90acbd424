/- Words that the kit's print.sh printed, in a copy without what is not used. Conditions: as_ each theorem states. -/
import Derived.Test.YtemnlgefngjliaaProg
import Derived.Test.YtemnlgefngjliaaWWords
import Derived.Test.YtemnlgefngjliaaWLast
import Derived.MapKept
import Derived.Test.YtemnlgefngjliaaWTab
namespace Go.Proofs.Ytemnlgefngjliaa.Given
open Go.RowKit Go.MapKept Go.Proofs.YtemnlgefngjliaaW.PrintWords Go.Proofs.YtemnlgefngjliaaW.PrintLast
set_option linter.unusedVariables false
set_option linter.unusedSimpArgs false
section
variable {α : Type}
end
section
variable {α : Type} {enc : α → Value} {P : Program} {w : World} {T K E : TypeId} {g : Nat} {M : List (Int × α)}
end
section
variable {P : Program} {ops : Array Oper} {rest : List Oper} {o : Oper} {a : Act} {Q : Exit → Act → World → Prop}
end
section
variable {α β : Type} {d : Kd α} {e base : Nat} {ok : Nat → Prop} {w W w1 w2 : World} {v : Value} {xs : List α}
end
end Go.Proofs.Ytemnlgefngjliaa.Given
namespace Go.Proofs.YtemnlgefngjliaaW.PrintLast
section
variable {P : Program} {ops : Array Oper} {Q : Exit → Act → World → Prop} {md : Region.Mode} {S : World → Prop} {ds : List Nat} {T : Bool × List (List Nat × List Nat)}
end
end Go.Proofs.YtemnlgefngjliaaW.PrintLast
