/-
  NARROWER THAN 'FOR EVERY INPUT', by the rows' own cells (each row's printed sentence says how): CalendarMatchesReference: laid · CalendarRoundTrip: laid · CalendarSuccession: laid · CalendarMonths: laid · CalendarWeeks: laid · CalendarWorking: laid · CalendarDeadline: laid · CalendarOrder: laid.
  DERIVED. THE GIVEN ROWS OF THIS SEAT. 8 by the template 'for every input the law returns true; each argument reads behind the call as it read before'; 0 by the template 'total and deterministic' (their statements: YtjkpojedegmciaaDoorTotals.lean).
  GIVEN WITH THE SEED: the statements are not yours to turn. If you find one false, say at which input.
  Laid BY PROGRAM, IN A SANDBOX (cutbox-rows.mjs): the forced cells as the released guide's own fill.sh prints them over the translation 71b22c1e50ab2478… (all of the seat's roots in one cut). By AI agents, Wed Nov 11 2026. No macro, syntax, notation, axiom, sorry.
-/
import Derived.Test.YtjkpojedegmciaaDoorChecked
import GoSem.Claim
import GoSem.ClaimJoined
import GoSem.ClaimMapViews
import Derived.JoinedTies
import Derived.KernelRfl
namespace Go.Proofs.YtjkpojedegmciaaDoor
/- THE CELL 'sum', in the pinned program and in every row, IS THE sha256 OF THE DUMP (.gsa) THAT YtjkpojedegmciaaDoorProg.lean LOADS. Nothing in Lean hashes anything: it is a label: what it is worth is what the hold of that sum in a sandbox is worth. -/
noncomputable def Tryd.pinned : Pinned := { name := "ytjkpojedegmciaadoor", sum := "71b22c1e50ab247857c2603d371ce229ff86df46958588ad82105ef4210ed7c6", checked := Tryd.checked }
namespace Rows
def none {H : Type} : Left H := { results := [], args := [] }

/- WHAT THE LISTED PACKAGE-LEVEL VARIABLES READ AS WHEN THE CALL BEGINS. Each datum BY PROGRAM (the guide's laid-datum.mjs) off the statement by which the dump's own 'gosem.cut.vars' lays the variable. In a bare row this is a premise. The card (YtjkpojedegmciaaDoorCards.lean) ties it to the program's text. -/
def laid_cohousing_calendar_lengths {H : Type} : DataW H := .agg [.lit (.int .i64 31), .lit (.int .i64 28), .lit (.int .i64 31), .lit (.int .i64 30), .lit (.int .i64 31), .lit (.int .i64 30), .lit (.int .i64 31), .lit (.int .i64 31), .lit (.int .i64 30), .lit (.int .i64 31), .lit (.int .i64 30), .lit (.int .i64 31)]

/-- 'cohousinglaw03.CalendarMatchesReference': WHATEVER THE INPUT: true; the input reads as it did. -/
def calendarMatchesReferenceSpec : ChangeSpec := { name := "calendarMatchesReference", fn := fun _ => fun
  | [d1, d2, d3, d4, d5, d6, d7] => { results := [.lit (.bool true)], args := [d1, d2, d3, d4, d5, d6, d7] }
  | _ => none }
def calendarMatchesReferenceRow : OpenClaim := { program := "ytjkpojedegmciaadoor", sum := "71b22c1e50ab247857c2603d371ce229ff86df46958588ad82105ef4210ed7c6", func := "cohousing/cohousinglaw03.CalendarMatchesReference", spec := "calendarMatchesReference", named := ["cohousing/calendar.lengths"], apart := false, laid := [("cohousing/calendar.lengths", laid_cohousing_calendar_lengths)] }
def CalendarMatchesReferenceSaid : Prop := calendarMatchesReferenceRow.holds Tryd.pinned (OpenSpec.ofChange calendarMatchesReferenceSpec)

/-- ITS FALSE NEIGHBOUR: 'it returns false'. Refute it at one input. -/
def calendarMatchesReferenceWrong : ChangeSpec := { name := "calendarMatchesReference", fn := fun _ => fun
  | [d1, d2, d3, d4, d5, d6, d7] => { results := [.lit (.bool false)], args := [d1, d2, d3, d4, d5, d6, d7] }
  | _ => none }
def CalendarMatchesReferenceWrongFalsely : Prop := calendarMatchesReferenceRow.holds Tryd.pinned (OpenSpec.ofChange calendarMatchesReferenceWrong)

/-- 'cohousinglaw03.CalendarRoundTrip': WHATEVER THE INPUT: true; the input reads as it did. -/
def calendarRoundTripSpec : ChangeSpec := { name := "calendarRoundTrip", fn := fun _ => fun
  | [d1, d2, d3, d4] => { results := [.lit (.bool true)], args := [d1, d2, d3, d4] }
  | _ => none }
def calendarRoundTripRow : OpenClaim := { program := "ytjkpojedegmciaadoor", sum := "71b22c1e50ab247857c2603d371ce229ff86df46958588ad82105ef4210ed7c6", func := "cohousing/cohousinglaw03.CalendarRoundTrip", spec := "calendarRoundTrip", named := ["cohousing/calendar.lengths"], apart := false, laid := [("cohousing/calendar.lengths", laid_cohousing_calendar_lengths)] }
def CalendarRoundTripSaid : Prop := calendarRoundTripRow.holds Tryd.pinned (OpenSpec.ofChange calendarRoundTripSpec)

/-- ITS FALSE NEIGHBOUR: 'it returns false'. Refute it at one input. -/
def calendarRoundTripWrong : ChangeSpec := { name := "calendarRoundTrip", fn := fun _ => fun
  | [d1, d2, d3, d4] => { results := [.lit (.bool false)], args := [d1, d2, d3, d4] }
  | _ => none }
def CalendarRoundTripWrongFalsely : Prop := calendarRoundTripRow.holds Tryd.pinned (OpenSpec.ofChange calendarRoundTripWrong)

/-- 'cohousinglaw03.CalendarSuccession': WHATEVER THE INPUT: true; the input reads as it did. -/
def calendarSuccessionSpec : ChangeSpec := { name := "calendarSuccession", fn := fun _ => fun
  | [d] => { results := [.lit (.bool true)], args := [d] }
  | _ => none }
def calendarSuccessionRow : OpenClaim := { program := "ytjkpojedegmciaadoor", sum := "71b22c1e50ab247857c2603d371ce229ff86df46958588ad82105ef4210ed7c6", func := "cohousing/cohousinglaw03.CalendarSuccession", spec := "calendarSuccession", named := ["cohousing/calendar.lengths"], apart := false, laid := [("cohousing/calendar.lengths", laid_cohousing_calendar_lengths)] }
def CalendarSuccessionSaid : Prop := calendarSuccessionRow.holds Tryd.pinned (OpenSpec.ofChange calendarSuccessionSpec)

/-- ITS FALSE NEIGHBOUR: 'it returns false'. Refute it at one input. -/
def calendarSuccessionWrong : ChangeSpec := { name := "calendarSuccession", fn := fun _ => fun
  | [d] => { results := [.lit (.bool false)], args := [d] }
  | _ => none }
def CalendarSuccessionWrongFalsely : Prop := calendarSuccessionRow.holds Tryd.pinned (OpenSpec.ofChange calendarSuccessionWrong)

/-- 'cohousinglaw03.CalendarMonths': WHATEVER THE INPUT: true; the input reads as it did. -/
def calendarMonthsSpec : ChangeSpec := { name := "calendarMonths", fn := fun _ => fun
  | [d1, d2] => { results := [.lit (.bool true)], args := [d1, d2] }
  | _ => none }
def calendarMonthsRow : OpenClaim := { program := "ytjkpojedegmciaadoor", sum := "71b22c1e50ab247857c2603d371ce229ff86df46958588ad82105ef4210ed7c6", func := "cohousing/cohousinglaw03.CalendarMonths", spec := "calendarMonths", named := ["cohousing/calendar.lengths"], apart := false, laid := [("cohousing/calendar.lengths", laid_cohousing_calendar_lengths)] }
def CalendarMonthsSaid : Prop := calendarMonthsRow.holds Tryd.pinned (OpenSpec.ofChange calendarMonthsSpec)

/-- ITS FALSE NEIGHBOUR: 'it returns false'. Refute it at one input. -/
def calendarMonthsWrong : ChangeSpec := { name := "calendarMonths", fn := fun _ => fun
  | [d1, d2] => { results := [.lit (.bool false)], args := [d1, d2] }
  | _ => none }
def CalendarMonthsWrongFalsely : Prop := calendarMonthsRow.holds Tryd.pinned (OpenSpec.ofChange calendarMonthsWrong)

/-- 'cohousinglaw03.CalendarWeeks': WHATEVER THE INPUT: true; the input reads as it did. -/
def calendarWeeksSpec : ChangeSpec := { name := "calendarWeeks", fn := fun _ => fun
  | [d] => { results := [.lit (.bool true)], args := [d] }
  | _ => none }
def calendarWeeksRow : OpenClaim := { program := "ytjkpojedegmciaadoor", sum := "71b22c1e50ab247857c2603d371ce229ff86df46958588ad82105ef4210ed7c6", func := "cohousing/cohousinglaw03.CalendarWeeks", spec := "calendarWeeks", named := ["cohousing/calendar.lengths"], apart := false, laid := [("cohousing/calendar.lengths", laid_cohousing_calendar_lengths)] }
def CalendarWeeksSaid : Prop := calendarWeeksRow.holds Tryd.pinned (OpenSpec.ofChange calendarWeeksSpec)

/-- ITS FALSE NEIGHBOUR: 'it returns false'. Refute it at one input. -/
def calendarWeeksWrong : ChangeSpec := { name := "calendarWeeks", fn := fun _ => fun
  | [d] => { results := [.lit (.bool false)], args := [d] }
  | _ => none }
def CalendarWeeksWrongFalsely : Prop := calendarWeeksRow.holds Tryd.pinned (OpenSpec.ofChange calendarWeeksWrong)

/-- 'cohousinglaw03.CalendarWorking': WHATEVER THE INPUT: true; the input reads as it did. -/
def calendarWorkingSpec : ChangeSpec := { name := "calendarWorking", fn := fun _ => fun
  | [d1, d2] => { results := [.lit (.bool true)], args := [d1, d2] }
  | _ => none }
def calendarWorkingRow : OpenClaim := { program := "ytjkpojedegmciaadoor", sum := "71b22c1e50ab247857c2603d371ce229ff86df46958588ad82105ef4210ed7c6", func := "cohousing/cohousinglaw03.CalendarWorking", spec := "calendarWorking", named := ["cohousing/calendar.lengths"], apart := false, laid := [("cohousing/calendar.lengths", laid_cohousing_calendar_lengths)] }
def CalendarWorkingSaid : Prop := calendarWorkingRow.holds Tryd.pinned (OpenSpec.ofChange calendarWorkingSpec)

/-- ITS FALSE NEIGHBOUR: 'it returns false'. Refute it at one input. -/
def calendarWorkingWrong : ChangeSpec := { name := "calendarWorking", fn := fun _ => fun
  | [d1, d2] => { results := [.lit (.bool false)], args := [d1, d2] }
  | _ => none }
def CalendarWorkingWrongFalsely : Prop := calendarWorkingRow.holds Tryd.pinned (OpenSpec.ofChange calendarWorkingWrong)

/-- 'cohousinglaw03.CalendarDeadline': WHATEVER THE INPUT: true; the input reads as it did. -/
def calendarDeadlineSpec : ChangeSpec := { name := "calendarDeadline", fn := fun _ => fun
  | [d1, d2, d3, d4] => { results := [.lit (.bool true)], args := [d1, d2, d3, d4] }
  | _ => none }
def calendarDeadlineRow : OpenClaim := { program := "ytjkpojedegmciaadoor", sum := "71b22c1e50ab247857c2603d371ce229ff86df46958588ad82105ef4210ed7c6", func := "cohousing/cohousinglaw03.CalendarDeadline", spec := "calendarDeadline", named := ["cohousing/calendar.lengths"], apart := false, laid := [("cohousing/calendar.lengths", laid_cohousing_calendar_lengths)] }
def CalendarDeadlineSaid : Prop := calendarDeadlineRow.holds Tryd.pinned (OpenSpec.ofChange calendarDeadlineSpec)

/-- ITS FALSE NEIGHBOUR: 'it returns false'. Refute it at one input. -/
def calendarDeadlineWrong : ChangeSpec := { name := "calendarDeadline", fn := fun _ => fun
  | [d1, d2, d3, d4] => { results := [.lit (.bool false)], args := [d1, d2, d3, d4] }
  | _ => none }
def CalendarDeadlineWrongFalsely : Prop := calendarDeadlineRow.holds Tryd.pinned (OpenSpec.ofChange calendarDeadlineWrong)

/-- 'cohousinglaw03.CalendarOrder': WHATEVER THE INPUT: true; the input reads as it did. -/
def calendarOrderSpec : ChangeSpec := { name := "calendarOrder", fn := fun _ => fun
  | [d1, d2, d3, d4, d5, d6, d7] => { results := [.lit (.bool true)], args := [d1, d2, d3, d4, d5, d6, d7] }
  | _ => none }
def calendarOrderRow : OpenClaim := { program := "ytjkpojedegmciaadoor", sum := "71b22c1e50ab247857c2603d371ce229ff86df46958588ad82105ef4210ed7c6", func := "cohousing/cohousinglaw03.CalendarOrder", spec := "calendarOrder", named := ["cohousing/calendar.lengths"], apart := false, laid := [("cohousing/calendar.lengths", laid_cohousing_calendar_lengths)] }
def CalendarOrderSaid : Prop := calendarOrderRow.holds Tryd.pinned (OpenSpec.ofChange calendarOrderSpec)

/-- ITS FALSE NEIGHBOUR: 'it returns false'. Refute it at one input. -/
def calendarOrderWrong : ChangeSpec := { name := "calendarOrder", fn := fun _ => fun
  | [d1, d2, d3, d4, d5, d6, d7] => { results := [.lit (.bool false)], args := [d1, d2, d3, d4, d5, d6, d7] }
  | _ => none }
def CalendarOrderWrongFalsely : Prop := calendarOrderRow.holds Tryd.pinned (OpenSpec.ofChange calendarOrderWrong)

/- THE SECOND FORM. 'bulk': how many values and letters a reading holds, each counted each time it is reached (what is shared counts as often as it is met; a slice's spare places count too). A statement '..UptoSaid' is the law's where the arguments, and the package variables that the reading takes, are together of bulk at most 1048576: NARROWER than '..Said'. Prove '..Said' where nothing that the law and all that it calls make is longer than what came in: it says more and counts as full. Else prove '..UptoSaid'. A law counts once. -/
mutual
def uptoBulk {H : Type} : DataW H → Nat
  | .lit (.string bytes) => bytes.length + 1
  | .lit _ => 1
  | .nil => 1
  | .ptr d => uptoBulk d + 1
  | .slice elems spare => uptoBulkAll elems + uptoBulkAll spare + 1
  | .agg parts => uptoBulkAll parts + 1
  | .iface _ d => uptoBulk d + 1
  | .map entries => uptoBulkEntries entries + 1
  | .held _ => 1
def uptoBulkAll {H : Type} : List (DataW H) → Nat
  | [] => 0
  | d :: r => uptoBulk d + uptoBulkAll r
def uptoBulkEntries {H : Type} : List (Lit × DataW H) → Nat
  | [] => 0
  | x :: r => uptoBulkEntry x + uptoBulkEntries r
def uptoBulkEntry {H : Type} : Lit × DataW H → Nat
  | (.string bytes, d) => bytes.length + uptoBulk d + 1
  | (_, d) => uptoBulk d + 1
 end
def uptoSmall : (H : Type) → List (DataW H) → Bool := fun _ ds => decide (uptoBulkAll ds ≤ 1048576)
def OpenSpec.upto (s : _root_.Go.ChangeSpec) : _root_.Go.OpenSpec := { _root_.Go.OpenSpec.ofChange s with cond := some uptoSmall }

/-- 'cohousinglaw03.CalendarMatchesReference', WHERE WHAT IT READS IS OF BULK AT MOST 1048576: true; the input reads as it did. -/
def calendarMatchesReferenceUptoRow : OpenClaim := { program := "ytjkpojedegmciaadoor", sum := "71b22c1e50ab247857c2603d371ce229ff86df46958588ad82105ef4210ed7c6", func := "cohousing/cohousinglaw03.CalendarMatchesReference", spec := "calendarMatchesReference", named := ["cohousing/calendar.lengths"], apart := false, laid := [("cohousing/calendar.lengths", laid_cohousing_calendar_lengths)], narrowed := true }
def CalendarMatchesReferenceUptoSaid : Prop := calendarMatchesReferenceUptoRow.holds Tryd.pinned (OpenSpec.upto calendarMatchesReferenceSpec)

/-- 'cohousinglaw03.CalendarRoundTrip', WHERE WHAT IT READS IS OF BULK AT MOST 1048576: true; the input reads as it did. -/
def calendarRoundTripUptoRow : OpenClaim := { program := "ytjkpojedegmciaadoor", sum := "71b22c1e50ab247857c2603d371ce229ff86df46958588ad82105ef4210ed7c6", func := "cohousing/cohousinglaw03.CalendarRoundTrip", spec := "calendarRoundTrip", named := ["cohousing/calendar.lengths"], apart := false, laid := [("cohousing/calendar.lengths", laid_cohousing_calendar_lengths)], narrowed := true }
def CalendarRoundTripUptoSaid : Prop := calendarRoundTripUptoRow.holds Tryd.pinned (OpenSpec.upto calendarRoundTripSpec)

/-- 'cohousinglaw03.CalendarSuccession', WHERE WHAT IT READS IS OF BULK AT MOST 1048576: true; the input reads as it did. -/
def calendarSuccessionUptoRow : OpenClaim := { program := "ytjkpojedegmciaadoor", sum := "71b22c1e50ab247857c2603d371ce229ff86df46958588ad82105ef4210ed7c6", func := "cohousing/cohousinglaw03.CalendarSuccession", spec := "calendarSuccession", named := ["cohousing/calendar.lengths"], apart := false, laid := [("cohousing/calendar.lengths", laid_cohousing_calendar_lengths)], narrowed := true }
def CalendarSuccessionUptoSaid : Prop := calendarSuccessionUptoRow.holds Tryd.pinned (OpenSpec.upto calendarSuccessionSpec)

/-- 'cohousinglaw03.CalendarMonths', WHERE WHAT IT READS IS OF BULK AT MOST 1048576: true; the input reads as it did. -/
def calendarMonthsUptoRow : OpenClaim := { program := "ytjkpojedegmciaadoor", sum := "71b22c1e50ab247857c2603d371ce229ff86df46958588ad82105ef4210ed7c6", func := "cohousing/cohousinglaw03.CalendarMonths", spec := "calendarMonths", named := ["cohousing/calendar.lengths"], apart := false, laid := [("cohousing/calendar.lengths", laid_cohousing_calendar_lengths)], narrowed := true }
def CalendarMonthsUptoSaid : Prop := calendarMonthsUptoRow.holds Tryd.pinned (OpenSpec.upto calendarMonthsSpec)

/-- 'cohousinglaw03.CalendarWeeks', WHERE WHAT IT READS IS OF BULK AT MOST 1048576: true; the input reads as it did. -/
def calendarWeeksUptoRow : OpenClaim := { program := "ytjkpojedegmciaadoor", sum := "71b22c1e50ab247857c2603d371ce229ff86df46958588ad82105ef4210ed7c6", func := "cohousing/cohousinglaw03.CalendarWeeks", spec := "calendarWeeks", named := ["cohousing/calendar.lengths"], apart := false, laid := [("cohousing/calendar.lengths", laid_cohousing_calendar_lengths)], narrowed := true }
def CalendarWeeksUptoSaid : Prop := calendarWeeksUptoRow.holds Tryd.pinned (OpenSpec.upto calendarWeeksSpec)

/-- 'cohousinglaw03.CalendarWorking', WHERE WHAT IT READS IS OF BULK AT MOST 1048576: true; the input reads as it did. -/
def calendarWorkingUptoRow : OpenClaim := { program := "ytjkpojedegmciaadoor", sum := "71b22c1e50ab247857c2603d371ce229ff86df46958588ad82105ef4210ed7c6", func := "cohousing/cohousinglaw03.CalendarWorking", spec := "calendarWorking", named := ["cohousing/calendar.lengths"], apart := false, laid := [("cohousing/calendar.lengths", laid_cohousing_calendar_lengths)], narrowed := true }
def CalendarWorkingUptoSaid : Prop := calendarWorkingUptoRow.holds Tryd.pinned (OpenSpec.upto calendarWorkingSpec)

/-- 'cohousinglaw03.CalendarDeadline', WHERE WHAT IT READS IS OF BULK AT MOST 1048576: true; the input reads as it did. -/
def calendarDeadlineUptoRow : OpenClaim := { program := "ytjkpojedegmciaadoor", sum := "71b22c1e50ab247857c2603d371ce229ff86df46958588ad82105ef4210ed7c6", func := "cohousing/cohousinglaw03.CalendarDeadline", spec := "calendarDeadline", named := ["cohousing/calendar.lengths"], apart := false, laid := [("cohousing/calendar.lengths", laid_cohousing_calendar_lengths)], narrowed := true }
def CalendarDeadlineUptoSaid : Prop := calendarDeadlineUptoRow.holds Tryd.pinned (OpenSpec.upto calendarDeadlineSpec)

/-- 'cohousinglaw03.CalendarOrder', WHERE WHAT IT READS IS OF BULK AT MOST 1048576: true; the input reads as it did. -/
def calendarOrderUptoRow : OpenClaim := { program := "ytjkpojedegmciaadoor", sum := "71b22c1e50ab247857c2603d371ce229ff86df46958588ad82105ef4210ed7c6", func := "cohousing/cohousinglaw03.CalendarOrder", spec := "calendarOrder", named := ["cohousing/calendar.lengths"], apart := false, laid := [("cohousing/calendar.lengths", laid_cohousing_calendar_lengths)], narrowed := true }
def CalendarOrderUptoSaid : Prop := calendarOrderUptoRow.holds Tryd.pinned (OpenSpec.upto calendarOrderSpec)

end Rows
end Go.Proofs.YtjkpojedegmciaaDoor
