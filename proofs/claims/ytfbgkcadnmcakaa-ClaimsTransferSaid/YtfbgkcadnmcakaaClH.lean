/- The claims' example, and the order of the assignments: without some, and with one behind. Conditions: as each theorem states. -/
import Derived.Test.YtfbgkcadnmcakaaClA
import Derived.Test.YtfbgkcadnmcakaaPx16
namespace Go.Proofs.Ytfbgkcadnmcakaa.Cl
open Go.RowKit Go.Proofs.YtfbgkcadnmcakaaW.PrintWords Go.Proofs.Ytfbgkcadnmcakaa.Given Go.Proofs.Ytfbgkcadnmcakaa.Px
set_option linter.unusedVariables false
set_option linter.unusedSimpArgs false
set_option maxRecDepth 100000 in
theorem b5f : Ev (fun k => a0e.f k) true := Ev.of (fun k => a0e.mono k) (k := 60) (by decide +kernel)
end Go.Proofs.Ytfbgkcadnmcakaa.Cl
