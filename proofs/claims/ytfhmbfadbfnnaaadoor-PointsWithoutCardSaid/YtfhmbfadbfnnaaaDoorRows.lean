/-
  NARROWER THAN 'FOR EVERY INPUT', by the rows' own cells (each row's printed sentence says how): PointsMatchesReference: laid · PointsParts: laid · PointsOrder: laid · PointsWithout: laid · PointsMore: laid · PointsLots: laid · PointsWaiting: laid.
  DERIVED. THE GIVEN ROWS OF THIS SEAT. 7 by the template 'for every input the law returns true; each argument reads behind the call as it read before'; 0 by the template 'total and deterministic' (their statements: YtfhmbfadbfnnaaaDoorTotals.lean).
  GIVEN WITH THE SEED: the statements are not yours to turn. If you find one false, say at which input.
  Laid BY PROGRAM, IN A SANDBOX (cutbox-rows.mjs): the forced cells as the released guide's own fill.sh prints them over the translation 5653778186fb3493… (all of the seat's roots in one cut). By AI agents, Wed Nov 11 2026. No macro, syntax, notation, axiom, sorry.
-/
import Derived.Test.YtfhmbfadbfnnaaaDoorChecked
import GoSem.Claim
import GoSem.ClaimJoined
import GoSem.ClaimMapViews
import Derived.JoinedTies
import Derived.KernelRfl
namespace Go.Proofs.YtfhmbfadbfnnaaaDoor
/- THE CELL 'sum', in the pinned program and in every row, IS THE sha256 OF THE DUMP (.gsa) THAT YtfhmbfadbfnnaaaDoorProg.lean LOADS. Nothing in Lean hashes anything: it is a label: what it is worth is what the hold of that sum in a sandbox is worth. -/
noncomputable def Tryd.pinned : Pinned := { name := "ytfhmbfadbfnnaaadoor", sum := "5653778186fb3493808c69dbd7a76eb08e8dc2261568f6cdf3dae5c88c253dc0", checked := Tryd.checked }
namespace Rows
def none {H : Type} : Left H := { results := [], args := [] }

/- WHAT THE LISTED PACKAGE-LEVEL VARIABLES READ AS WHEN THE CALL BEGINS. Each datum BY PROGRAM (the guide's laid-datum.mjs) off the statement by which the dump's own 'gosem.cut.vars' lays the variable. In a bare row this is a premise. The card (YtfhmbfadbfnnaaaDoorCards.lean) ties it to the program's text. -/
def laid_cohousing_calendar_lengths {H : Type} : DataW H := .agg [.lit (.int .i64 31), .lit (.int .i64 28), .lit (.int .i64 31), .lit (.int .i64 30), .lit (.int .i64 31), .lit (.int .i64 30), .lit (.int .i64 31), .lit (.int .i64 31), .lit (.int .i64 30), .lit (.int .i64 31), .lit (.int .i64 30), .lit (.int .i64 31)]

/-- 'cohousinglaw21.PointsMatchesReference': WHATEVER THE INPUT: true; the input reads as it did. -/
def pointsMatchesReferenceSpec : ChangeSpec := { name := "pointsMatchesReference", fn := fun _ => fun
  | [d1, d2, d3, d4, d5] => { results := [.lit (.bool true)], args := [d1, d2, d3, d4, d5] }
  | _ => none }
def pointsMatchesReferenceRow : OpenClaim := { program := "ytfhmbfadbfnnaaadoor", sum := "5653778186fb3493808c69dbd7a76eb08e8dc2261568f6cdf3dae5c88c253dc0", func := "cohousing/cohousinglaw21.PointsMatchesReference", spec := "pointsMatchesReference", unfollowed := true, recurses := true, named := ["cohousing/calendar.lengths"], apart := false, laid := [("cohousing/calendar.lengths", laid_cohousing_calendar_lengths)] }
def PointsMatchesReferenceSaid : Prop := pointsMatchesReferenceRow.holds Tryd.pinned (OpenSpec.ofChange pointsMatchesReferenceSpec)

/-- ITS FALSE NEIGHBOUR: 'it returns false'. Refute it at one input. -/
def pointsMatchesReferenceWrong : ChangeSpec := { name := "pointsMatchesReference", fn := fun _ => fun
  | [d1, d2, d3, d4, d5] => { results := [.lit (.bool false)], args := [d1, d2, d3, d4, d5] }
  | _ => none }
def PointsMatchesReferenceWrongFalsely : Prop := pointsMatchesReferenceRow.holds Tryd.pinned (OpenSpec.ofChange pointsMatchesReferenceWrong)

/-- 'cohousinglaw21.PointsParts': WHATEVER THE INPUT: true; the input reads as it did. -/
def pointsPartsSpec : ChangeSpec := { name := "pointsParts", fn := fun _ => fun
  | [d1, d2, d3] => { results := [.lit (.bool true)], args := [d1, d2, d3] }
  | _ => none }
def pointsPartsRow : OpenClaim := { program := "ytfhmbfadbfnnaaadoor", sum := "5653778186fb3493808c69dbd7a76eb08e8dc2261568f6cdf3dae5c88c253dc0", func := "cohousing/cohousinglaw21.PointsParts", spec := "pointsParts", unfollowed := true, recurses := true, named := ["cohousing/calendar.lengths"], apart := false, laid := [("cohousing/calendar.lengths", laid_cohousing_calendar_lengths)] }
def PointsPartsSaid : Prop := pointsPartsRow.holds Tryd.pinned (OpenSpec.ofChange pointsPartsSpec)

/-- ITS FALSE NEIGHBOUR: 'it returns false'. Refute it at one input. -/
def pointsPartsWrong : ChangeSpec := { name := "pointsParts", fn := fun _ => fun
  | [d1, d2, d3] => { results := [.lit (.bool false)], args := [d1, d2, d3] }
  | _ => none }
def PointsPartsWrongFalsely : Prop := pointsPartsRow.holds Tryd.pinned (OpenSpec.ofChange pointsPartsWrong)

/-- 'cohousinglaw21.PointsOrder': WHATEVER THE INPUT: true; the input reads as it did. -/
def pointsOrderSpec : ChangeSpec := { name := "pointsOrder", fn := fun _ => fun
  | [d1, d2, d3, d4] => { results := [.lit (.bool true)], args := [d1, d2, d3, d4] }
  | _ => none }
def pointsOrderRow : OpenClaim := { program := "ytfhmbfadbfnnaaadoor", sum := "5653778186fb3493808c69dbd7a76eb08e8dc2261568f6cdf3dae5c88c253dc0", func := "cohousing/cohousinglaw21.PointsOrder", spec := "pointsOrder", unfollowed := true, recurses := true, named := ["cohousing/calendar.lengths"], apart := false, laid := [("cohousing/calendar.lengths", laid_cohousing_calendar_lengths)] }
def PointsOrderSaid : Prop := pointsOrderRow.holds Tryd.pinned (OpenSpec.ofChange pointsOrderSpec)

/-- ITS FALSE NEIGHBOUR: 'it returns false'. Refute it at one input. -/
def pointsOrderWrong : ChangeSpec := { name := "pointsOrder", fn := fun _ => fun
  | [d1, d2, d3, d4] => { results := [.lit (.bool false)], args := [d1, d2, d3, d4] }
  | _ => none }
def PointsOrderWrongFalsely : Prop := pointsOrderRow.holds Tryd.pinned (OpenSpec.ofChange pointsOrderWrong)

/-- 'cohousinglaw21.PointsWithout': WHATEVER THE INPUT: true; the input reads as it did. -/
def pointsWithoutSpec : ChangeSpec := { name := "pointsWithout", fn := fun _ => fun
  | [d1, d2, d3, d4, d5] => { results := [.lit (.bool true)], args := [d1, d2, d3, d4, d5] }
  | _ => none }
def pointsWithoutRow : OpenClaim := { program := "ytfhmbfadbfnnaaadoor", sum := "5653778186fb3493808c69dbd7a76eb08e8dc2261568f6cdf3dae5c88c253dc0", func := "cohousing/cohousinglaw21.PointsWithout", spec := "pointsWithout", unfollowed := true, recurses := true, named := ["cohousing/calendar.lengths"], apart := false, laid := [("cohousing/calendar.lengths", laid_cohousing_calendar_lengths)] }
def PointsWithoutSaid : Prop := pointsWithoutRow.holds Tryd.pinned (OpenSpec.ofChange pointsWithoutSpec)

/-- ITS FALSE NEIGHBOUR: 'it returns false'. Refute it at one input. -/
def pointsWithoutWrong : ChangeSpec := { name := "pointsWithout", fn := fun _ => fun
  | [d1, d2, d3, d4, d5] => { results := [.lit (.bool false)], args := [d1, d2, d3, d4, d5] }
  | _ => none }
def PointsWithoutWrongFalsely : Prop := pointsWithoutRow.holds Tryd.pinned (OpenSpec.ofChange pointsWithoutWrong)

/-- 'cohousinglaw21.PointsMore': WHATEVER THE INPUT: true; the input reads as it did. -/
def pointsMoreSpec : ChangeSpec := { name := "pointsMore", fn := fun _ => fun
  | [d1, d2, d3, d4, d5, d6] => { results := [.lit (.bool true)], args := [d1, d2, d3, d4, d5, d6] }
  | _ => none }
def pointsMoreRow : OpenClaim := { program := "ytfhmbfadbfnnaaadoor", sum := "5653778186fb3493808c69dbd7a76eb08e8dc2261568f6cdf3dae5c88c253dc0", func := "cohousing/cohousinglaw21.PointsMore", spec := "pointsMore", unfollowed := true, recurses := true, named := ["cohousing/calendar.lengths"], apart := false, laid := [("cohousing/calendar.lengths", laid_cohousing_calendar_lengths)] }
def PointsMoreSaid : Prop := pointsMoreRow.holds Tryd.pinned (OpenSpec.ofChange pointsMoreSpec)

/-- ITS FALSE NEIGHBOUR: 'it returns false'. Refute it at one input. -/
def pointsMoreWrong : ChangeSpec := { name := "pointsMore", fn := fun _ => fun
  | [d1, d2, d3, d4, d5, d6] => { results := [.lit (.bool false)], args := [d1, d2, d3, d4, d5, d6] }
  | _ => none }
def PointsMoreWrongFalsely : Prop := pointsMoreRow.holds Tryd.pinned (OpenSpec.ofChange pointsMoreWrong)

/-- 'cohousinglaw21.PointsLots': WHATEVER THE INPUT: true; the input reads as it did. -/
def pointsLotsSpec : ChangeSpec := { name := "pointsLots", fn := fun _ => fun
  | [d1, d2, d3, d4, d5] => { results := [.lit (.bool true)], args := [d1, d2, d3, d4, d5] }
  | _ => none }
def pointsLotsRow : OpenClaim := { program := "ytfhmbfadbfnnaaadoor", sum := "5653778186fb3493808c69dbd7a76eb08e8dc2261568f6cdf3dae5c88c253dc0", func := "cohousing/cohousinglaw21.PointsLots", spec := "pointsLots", unfollowed := true, recurses := true, named := ["cohousing/calendar.lengths"], apart := false, laid := [("cohousing/calendar.lengths", laid_cohousing_calendar_lengths)] }
def PointsLotsSaid : Prop := pointsLotsRow.holds Tryd.pinned (OpenSpec.ofChange pointsLotsSpec)

/-- ITS FALSE NEIGHBOUR: 'it returns false'. Refute it at one input. -/
def pointsLotsWrong : ChangeSpec := { name := "pointsLots", fn := fun _ => fun
  | [d1, d2, d3, d4, d5] => { results := [.lit (.bool false)], args := [d1, d2, d3, d4, d5] }
  | _ => none }
def PointsLotsWrongFalsely : Prop := pointsLotsRow.holds Tryd.pinned (OpenSpec.ofChange pointsLotsWrong)

/-- 'cohousinglaw21.PointsWaiting': WHATEVER THE INPUT: true; the input reads as it did. -/
def pointsWaitingSpec : ChangeSpec := { name := "pointsWaiting", fn := fun _ => fun
  | [d1, d2, d3, d4] => { results := [.lit (.bool true)], args := [d1, d2, d3, d4] }
  | _ => none }
def pointsWaitingRow : OpenClaim := { program := "ytfhmbfadbfnnaaadoor", sum := "5653778186fb3493808c69dbd7a76eb08e8dc2261568f6cdf3dae5c88c253dc0", func := "cohousing/cohousinglaw21.PointsWaiting", spec := "pointsWaiting", unfollowed := true, recurses := true, named := ["cohousing/calendar.lengths"], apart := false, laid := [("cohousing/calendar.lengths", laid_cohousing_calendar_lengths)] }
def PointsWaitingSaid : Prop := pointsWaitingRow.holds Tryd.pinned (OpenSpec.ofChange pointsWaitingSpec)

/-- ITS FALSE NEIGHBOUR: 'it returns false'. Refute it at one input. -/
def pointsWaitingWrong : ChangeSpec := { name := "pointsWaiting", fn := fun _ => fun
  | [d1, d2, d3, d4] => { results := [.lit (.bool false)], args := [d1, d2, d3, d4] }
  | _ => none }
def PointsWaitingWrongFalsely : Prop := pointsWaitingRow.holds Tryd.pinned (OpenSpec.ofChange pointsWaitingWrong)

/- THE SECOND FORM. 'bulk': how many values and letters a reading holds, each counted each time it is reached (what is shared counts as often as it is met; a slice's spare places count too). A statement '..UptoSaid' is the law's where the arguments, and the package variables that the reading takes, are together of bulk at most 1048576: NARROWER than '..Said'. Prove '..Said' where nothing that the law and all that it calls make is longer than what came in: it says more and counts as full. Else prove '..UptoSaid'. A law counts once. -/
mutual
def uptoBulk {H : Type} : DataW H → Nat
  | .lit (.string bytes) => bytes.length + 1
  | .lit _ => 1
  | .nil => 1
  | .ptr d => uptoBulk d + 1
  | .slice elems spare => uptoBulkAll elems + uptoBulkAll spare + 1
  | .agg parts => uptoBulkAll parts + 1
  | .iface _ d => uptoBulk d + 1
  | .map entries => uptoBulkEntries entries + 1
  | .held _ => 1
def uptoBulkAll {H : Type} : List (DataW H) → Nat
  | [] => 0
  | d :: r => uptoBulk d + uptoBulkAll r
def uptoBulkEntries {H : Type} : List (Lit × DataW H) → Nat
  | [] => 0
  | x :: r => uptoBulkEntry x + uptoBulkEntries r
def uptoBulkEntry {H : Type} : Lit × DataW H → Nat
  | (.string bytes, d) => bytes.length + uptoBulk d + 1
  | (_, d) => uptoBulk d + 1
 end
def uptoSmall : (H : Type) → List (DataW H) → Bool := fun _ ds => decide (uptoBulkAll ds ≤ 1048576)
def OpenSpec.upto (s : _root_.Go.ChangeSpec) : _root_.Go.OpenSpec := { _root_.Go.OpenSpec.ofChange s with cond := some uptoSmall }

/-- 'cohousinglaw21.PointsMatchesReference', WHERE WHAT IT READS IS OF BULK AT MOST 1048576: true; the input reads as it did. -/
def pointsMatchesReferenceUptoRow : OpenClaim := { program := "ytfhmbfadbfnnaaadoor", sum := "5653778186fb3493808c69dbd7a76eb08e8dc2261568f6cdf3dae5c88c253dc0", func := "cohousing/cohousinglaw21.PointsMatchesReference", spec := "pointsMatchesReference", unfollowed := true, recurses := true, named := ["cohousing/calendar.lengths"], apart := false, laid := [("cohousing/calendar.lengths", laid_cohousing_calendar_lengths)], narrowed := true }
def PointsMatchesReferenceUptoSaid : Prop := pointsMatchesReferenceUptoRow.holds Tryd.pinned (OpenSpec.upto pointsMatchesReferenceSpec)

/-- 'cohousinglaw21.PointsParts', WHERE WHAT IT READS IS OF BULK AT MOST 1048576: true; the input reads as it did. -/
def pointsPartsUptoRow : OpenClaim := { program := "ytfhmbfadbfnnaaadoor", sum := "5653778186fb3493808c69dbd7a76eb08e8dc2261568f6cdf3dae5c88c253dc0", func := "cohousing/cohousinglaw21.PointsParts", spec := "pointsParts", unfollowed := true, recurses := true, named := ["cohousing/calendar.lengths"], apart := false, laid := [("cohousing/calendar.lengths", laid_cohousing_calendar_lengths)], narrowed := true }
def PointsPartsUptoSaid : Prop := pointsPartsUptoRow.holds Tryd.pinned (OpenSpec.upto pointsPartsSpec)

/-- 'cohousinglaw21.PointsOrder', WHERE WHAT IT READS IS OF BULK AT MOST 1048576: true; the input reads as it did. -/
def pointsOrderUptoRow : OpenClaim := { program := "ytfhmbfadbfnnaaadoor", sum := "5653778186fb3493808c69dbd7a76eb08e8dc2261568f6cdf3dae5c88c253dc0", func := "cohousing/cohousinglaw21.PointsOrder", spec := "pointsOrder", unfollowed := true, recurses := true, named := ["cohousing/calendar.lengths"], apart := false, laid := [("cohousing/calendar.lengths", laid_cohousing_calendar_lengths)], narrowed := true }
def PointsOrderUptoSaid : Prop := pointsOrderUptoRow.holds Tryd.pinned (OpenSpec.upto pointsOrderSpec)

/-- 'cohousinglaw21.PointsWithout', WHERE WHAT IT READS IS OF BULK AT MOST 1048576: true; the input reads as it did. -/
def pointsWithoutUptoRow : OpenClaim := { program := "ytfhmbfadbfnnaaadoor", sum := "5653778186fb3493808c69dbd7a76eb08e8dc2261568f6cdf3dae5c88c253dc0", func := "cohousing/cohousinglaw21.PointsWithout", spec := "pointsWithout", unfollowed := true, recurses := true, named := ["cohousing/calendar.lengths"], apart := false, laid := [("cohousing/calendar.lengths", laid_cohousing_calendar_lengths)], narrowed := true }
def PointsWithoutUptoSaid : Prop := pointsWithoutUptoRow.holds Tryd.pinned (OpenSpec.upto pointsWithoutSpec)

/-- 'cohousinglaw21.PointsMore', WHERE WHAT IT READS IS OF BULK AT MOST 1048576: true; the input reads as it did. -/
def pointsMoreUptoRow : OpenClaim := { program := "ytfhmbfadbfnnaaadoor", sum := "5653778186fb3493808c69dbd7a76eb08e8dc2261568f6cdf3dae5c88c253dc0", func := "cohousing/cohousinglaw21.PointsMore", spec := "pointsMore", unfollowed := true, recurses := true, named := ["cohousing/calendar.lengths"], apart := false, laid := [("cohousing/calendar.lengths", laid_cohousing_calendar_lengths)], narrowed := true }
def PointsMoreUptoSaid : Prop := pointsMoreUptoRow.holds Tryd.pinned (OpenSpec.upto pointsMoreSpec)

/-- 'cohousinglaw21.PointsLots', WHERE WHAT IT READS IS OF BULK AT MOST 1048576: true; the input reads as it did. -/
def pointsLotsUptoRow : OpenClaim := { program := "ytfhmbfadbfnnaaadoor", sum := "5653778186fb3493808c69dbd7a76eb08e8dc2261568f6cdf3dae5c88c253dc0", func := "cohousing/cohousinglaw21.PointsLots", spec := "pointsLots", unfollowed := true, recurses := true, named := ["cohousing/calendar.lengths"], apart := false, laid := [("cohousing/calendar.lengths", laid_cohousing_calendar_lengths)], narrowed := true }
def PointsLotsUptoSaid : Prop := pointsLotsUptoRow.holds Tryd.pinned (OpenSpec.upto pointsLotsSpec)

/-- 'cohousinglaw21.PointsWaiting', WHERE WHAT IT READS IS OF BULK AT MOST 1048576: true; the input reads as it did. -/
def pointsWaitingUptoRow : OpenClaim := { program := "ytfhmbfadbfnnaaadoor", sum := "5653778186fb3493808c69dbd7a76eb08e8dc2261568f6cdf3dae5c88c253dc0", func := "cohousing/cohousinglaw21.PointsWaiting", spec := "pointsWaiting", unfollowed := true, recurses := true, named := ["cohousing/calendar.lengths"], apart := false, laid := [("cohousing/calendar.lengths", laid_cohousing_calendar_lengths)], narrowed := true }
def PointsWaitingUptoSaid : Prop := pointsWaitingUptoRow.holds Tryd.pinned (OpenSpec.upto pointsWaitingSpec)

end Rows
end Go.Proofs.YtfhmbfadbfnnaaaDoor
