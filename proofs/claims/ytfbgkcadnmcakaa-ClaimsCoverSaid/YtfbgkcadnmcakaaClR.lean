/- What the reference's functions on claims count: the same as the program's. Conditions: as each theorem states. -/
import Derived.Test.YtfbgkcadnmcakaaClC
import Derived.Test.YtfbgkcadnmcakaaPx20
import Derived.Test.YtfbgkcadnmcakaaPx18
import Derived.Test.YtfbgkcadnmcakaaPx19
import Derived.Test.YtfbgkcadnmcakaaPx21
import Derived.Test.YtfbgkcadnmcakaaPx22
namespace Go.Proofs.Ytfbgkcadnmcakaa.Cl
open Go.RowKit Go.Proofs.YtfbgkcadnmcakaaW.PrintWords Go.Proofs.Ytfbgkcadnmcakaa.Given Go.Proofs.Ytfbgkcadnmcakaa.Px
set_option linter.unusedVariables false
set_option linter.unusedSimpArgs false
def later (day i : Int) (x : S26) (j : Int) : Prop := x.f3 > day ∨ x.f3 = day ∧ j > i
def lexP (p q : S26 × Int) : Prop := p.1.f3 < q.1.f3 ∨ p.1.f3 = q.1.f3 ∧ p.2 < q.2
theorem lexP.trans {p q r : S26 × Int} (h : lexP p q) (k : lexP q r) : lexP p r := by unfold lexP at *; omega
def place : List (S26 × Int) → Int
  | [] => -1
  | p :: _ => p.2
end Go.Proofs.Ytfbgkcadnmcakaa.Cl
