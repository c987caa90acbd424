/-
  DERIVED. GIVEN WITH THE SEED: THE CARDS: each row of YtjkpojedegmciaaDoorRows.lean that lists a variable, with what it lists TIED to the program's text (the seventh form; the later family's looks); each row that meets fmt, with fmt's text TOLD by the authors' own Lean function (tested against real Go, not proved from fmt's source: count such statements apart). THE CARD IS WHAT COUNTS. Prove the row's statement (the work); the ties are given (YtjkpojedegmciaaDoorTie.lean); close each card by the builder's one call (the guide's Derived/Test/ToyasCard.lean, 'card_holds'). Laid BY PROGRAM, IN A SANDBOX (cutbox-door.mjs). By AI agents, Wed Nov 11 2026. No macro, syntax, notation, axiom, sorry.
-/
import Derived.Test.YtjkpojedegmciaaDoorRows
import GoSem.ClaimSeven
namespace Go.Proofs.YtjkpojedegmciaaDoor
namespace Rows

/-- THE TIED CARD OF 'cohousinglaw03.CalendarMatchesReference'. -/
def calendarMatchesReferenceCard : Claim7 := { stood := { row := calendarMatchesReferenceRow, standIns := [], harness := (true, "79fec1f0b915d72bf6a3051d79455f1558c3db71643873940977f996387cd42c"), looks := false }, kinds := [], alts := [], laidByText := true, laidKinds := [.data], laidTests := true, laidLooks := .later }
def CalendarMatchesReferenceCardSaid : Prop := Claim7.holds Tryd.pinned (.plain (OpenSpec.ofChange calendarMatchesReferenceSpec)) calendarMatchesReferenceCard

/-- THE TIED CARD OF 'cohousinglaw03.CalendarRoundTrip'. -/
def calendarRoundTripCard : Claim7 := { stood := { row := calendarRoundTripRow, standIns := [], harness := (true, "79fec1f0b915d72bf6a3051d79455f1558c3db71643873940977f996387cd42c"), looks := false }, kinds := [], alts := [], laidByText := true, laidKinds := [.data], laidTests := true, laidLooks := .later }
def CalendarRoundTripCardSaid : Prop := Claim7.holds Tryd.pinned (.plain (OpenSpec.ofChange calendarRoundTripSpec)) calendarRoundTripCard

/-- THE TIED CARD OF 'cohousinglaw03.CalendarSuccession'. -/
def calendarSuccessionCard : Claim7 := { stood := { row := calendarSuccessionRow, standIns := [], harness := (true, "79fec1f0b915d72bf6a3051d79455f1558c3db71643873940977f996387cd42c"), looks := false }, kinds := [], alts := [], laidByText := true, laidKinds := [.data], laidTests := true, laidLooks := .later }
def CalendarSuccessionCardSaid : Prop := Claim7.holds Tryd.pinned (.plain (OpenSpec.ofChange calendarSuccessionSpec)) calendarSuccessionCard

/-- THE TIED CARD OF 'cohousinglaw03.CalendarMonths'. -/
def calendarMonthsCard : Claim7 := { stood := { row := calendarMonthsRow, standIns := [], harness := (true, "79fec1f0b915d72bf6a3051d79455f1558c3db71643873940977f996387cd42c"), looks := false }, kinds := [], alts := [], laidByText := true, laidKinds := [.data], laidTests := true, laidLooks := .later }
def CalendarMonthsCardSaid : Prop := Claim7.holds Tryd.pinned (.plain (OpenSpec.ofChange calendarMonthsSpec)) calendarMonthsCard

/-- THE TIED CARD OF 'cohousinglaw03.CalendarWeeks'. -/
def calendarWeeksCard : Claim7 := { stood := { row := calendarWeeksRow, standIns := [], harness := (true, "79fec1f0b915d72bf6a3051d79455f1558c3db71643873940977f996387cd42c"), looks := false }, kinds := [], alts := [], laidByText := true, laidKinds := [.data], laidTests := true, laidLooks := .later }
def CalendarWeeksCardSaid : Prop := Claim7.holds Tryd.pinned (.plain (OpenSpec.ofChange calendarWeeksSpec)) calendarWeeksCard

/-- THE TIED CARD OF 'cohousinglaw03.CalendarWorking'. -/
def calendarWorkingCard : Claim7 := { stood := { row := calendarWorkingRow, standIns := [], harness := (true, "79fec1f0b915d72bf6a3051d79455f1558c3db71643873940977f996387cd42c"), looks := false }, kinds := [], alts := [], laidByText := true, laidKinds := [.data], laidTests := true, laidLooks := .later }
def CalendarWorkingCardSaid : Prop := Claim7.holds Tryd.pinned (.plain (OpenSpec.ofChange calendarWorkingSpec)) calendarWorkingCard

/-- THE TIED CARD OF 'cohousinglaw03.CalendarDeadline'. -/
def calendarDeadlineCard : Claim7 := { stood := { row := calendarDeadlineRow, standIns := [], harness := (true, "79fec1f0b915d72bf6a3051d79455f1558c3db71643873940977f996387cd42c"), looks := false }, kinds := [], alts := [], laidByText := true, laidKinds := [.data], laidTests := true, laidLooks := .later }
def CalendarDeadlineCardSaid : Prop := Claim7.holds Tryd.pinned (.plain (OpenSpec.ofChange calendarDeadlineSpec)) calendarDeadlineCard

/-- THE TIED CARD OF 'cohousinglaw03.CalendarOrder'. -/
def calendarOrderCard : Claim7 := { stood := { row := calendarOrderRow, standIns := [], harness := (true, "79fec1f0b915d72bf6a3051d79455f1558c3db71643873940977f996387cd42c"), looks := false }, kinds := [], alts := [], laidByText := true, laidKinds := [.data], laidTests := true, laidLooks := .later }
def CalendarOrderCardSaid : Prop := Claim7.holds Tryd.pinned (.plain (OpenSpec.ofChange calendarOrderSpec)) calendarOrderCard

/-- THE SECOND FORM's CARD OF 'cohousinglaw03.CalendarMatchesReference'. -/
def calendarMatchesReferenceUptoCard : Claim7 := { stood := { row := calendarMatchesReferenceUptoRow, standIns := [], harness := (true, "79fec1f0b915d72bf6a3051d79455f1558c3db71643873940977f996387cd42c"), looks := false }, kinds := [], alts := [], laidByText := true, laidKinds := [.data], laidTests := true, laidLooks := .later }
def CalendarMatchesReferenceUptoCardSaid : Prop := Claim7.holds Tryd.pinned (.plain (OpenSpec.upto calendarMatchesReferenceSpec)) calendarMatchesReferenceUptoCard

/-- THE SECOND FORM's CARD OF 'cohousinglaw03.CalendarRoundTrip'. -/
def calendarRoundTripUptoCard : Claim7 := { stood := { row := calendarRoundTripUptoRow, standIns := [], harness := (true, "79fec1f0b915d72bf6a3051d79455f1558c3db71643873940977f996387cd42c"), looks := false }, kinds := [], alts := [], laidByText := true, laidKinds := [.data], laidTests := true, laidLooks := .later }
def CalendarRoundTripUptoCardSaid : Prop := Claim7.holds Tryd.pinned (.plain (OpenSpec.upto calendarRoundTripSpec)) calendarRoundTripUptoCard

/-- THE SECOND FORM's CARD OF 'cohousinglaw03.CalendarSuccession'. -/
def calendarSuccessionUptoCard : Claim7 := { stood := { row := calendarSuccessionUptoRow, standIns := [], harness := (true, "79fec1f0b915d72bf6a3051d79455f1558c3db71643873940977f996387cd42c"), looks := false }, kinds := [], alts := [], laidByText := true, laidKinds := [.data], laidTests := true, laidLooks := .later }
def CalendarSuccessionUptoCardSaid : Prop := Claim7.holds Tryd.pinned (.plain (OpenSpec.upto calendarSuccessionSpec)) calendarSuccessionUptoCard

/-- THE SECOND FORM's CARD OF 'cohousinglaw03.CalendarMonths'. -/
def calendarMonthsUptoCard : Claim7 := { stood := { row := calendarMonthsUptoRow, standIns := [], harness := (true, "79fec1f0b915d72bf6a3051d79455f1558c3db71643873940977f996387cd42c"), looks := false }, kinds := [], alts := [], laidByText := true, laidKinds := [.data], laidTests := true, laidLooks := .later }
def CalendarMonthsUptoCardSaid : Prop := Claim7.holds Tryd.pinned (.plain (OpenSpec.upto calendarMonthsSpec)) calendarMonthsUptoCard

/-- THE SECOND FORM's CARD OF 'cohousinglaw03.CalendarWeeks'. -/
def calendarWeeksUptoCard : Claim7 := { stood := { row := calendarWeeksUptoRow, standIns := [], harness := (true, "79fec1f0b915d72bf6a3051d79455f1558c3db71643873940977f996387cd42c"), looks := false }, kinds := [], alts := [], laidByText := true, laidKinds := [.data], laidTests := true, laidLooks := .later }
def CalendarWeeksUptoCardSaid : Prop := Claim7.holds Tryd.pinned (.plain (OpenSpec.upto calendarWeeksSpec)) calendarWeeksUptoCard

/-- THE SECOND FORM's CARD OF 'cohousinglaw03.CalendarWorking'. -/
def calendarWorkingUptoCard : Claim7 := { stood := { row := calendarWorkingUptoRow, standIns := [], harness := (true, "79fec1f0b915d72bf6a3051d79455f1558c3db71643873940977f996387cd42c"), looks := false }, kinds := [], alts := [], laidByText := true, laidKinds := [.data], laidTests := true, laidLooks := .later }
def CalendarWorkingUptoCardSaid : Prop := Claim7.holds Tryd.pinned (.plain (OpenSpec.upto calendarWorkingSpec)) calendarWorkingUptoCard

/-- THE SECOND FORM's CARD OF 'cohousinglaw03.CalendarDeadline'. -/
def calendarDeadlineUptoCard : Claim7 := { stood := { row := calendarDeadlineUptoRow, standIns := [], harness := (true, "79fec1f0b915d72bf6a3051d79455f1558c3db71643873940977f996387cd42c"), looks := false }, kinds := [], alts := [], laidByText := true, laidKinds := [.data], laidTests := true, laidLooks := .later }
def CalendarDeadlineUptoCardSaid : Prop := Claim7.holds Tryd.pinned (.plain (OpenSpec.upto calendarDeadlineSpec)) calendarDeadlineUptoCard

/-- THE SECOND FORM's CARD OF 'cohousinglaw03.CalendarOrder'. -/
def calendarOrderUptoCard : Claim7 := { stood := { row := calendarOrderUptoRow, standIns := [], harness := (true, "79fec1f0b915d72bf6a3051d79455f1558c3db71643873940977f996387cd42c"), looks := false }, kinds := [], alts := [], laidByText := true, laidKinds := [.data], laidTests := true, laidLooks := .later }
def CalendarOrderUptoCardSaid : Prop := Claim7.holds Tryd.pinned (.plain (OpenSpec.upto calendarOrderSpec)) calendarOrderUptoCard
end Rows
end Go.Proofs.YtjkpojedegmciaaDoor
