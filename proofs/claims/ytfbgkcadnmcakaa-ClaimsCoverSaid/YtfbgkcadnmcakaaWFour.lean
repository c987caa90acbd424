/- Words that the kit's print.sh printed, in a copy without what is not used. Conditions: as_ each theorem states. -/
import Derived.Test.YtfbgkcadnmcakaaWTab
namespace Go.Proofs.YtfbgkcadnmcakaaW.PrintLast
section
variable {P : Program} {ops : Array Oper} {Q : Exit → Act → World → Prop} {md : Region.Mode} {S : World → Prop} {ds : List Nat} {T : Bool × List (List Nat × List Nat)}
end
end Go.Proofs.YtfbgkcadnmcakaaW.PrintLast
