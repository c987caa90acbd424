/-
  DERIVED. GIVEN WITH THE SEED: THE CARDS: each row of YtfhmbfadbfnnaaaDoorRows.lean that lists a variable, with what it lists TIED to the program's text (the seventh form; the later family's looks); each row that meets fmt, with fmt's text TOLD by the authors' own Lean function (tested against real Go, not proved from fmt's source: count such statements apart). THE CARD IS WHAT COUNTS. Prove the row's statement (the work); the ties are given (YtfhmbfadbfnnaaaDoorTie.lean); close each card by the builder's one call (the guide's Derived/Test/ToyasCard.lean, 'card_holds'). Laid BY PROGRAM, IN A SANDBOX (cutbox-door.mjs). By AI agents, Wed Nov 11 2026. No macro, syntax, notation, axiom, sorry.
-/
import Derived.Test.YtfhmbfadbfnnaaaDoorRows
import GoSem.ClaimSeven
namespace Go.Proofs.YtfhmbfadbfnnaaaDoor
namespace Rows

/-- THE TIED CARD OF 'cohousinglaw21.PointsMatchesReference'. -/
def pointsMatchesReferenceCard : Claim7 := { stood := { row := pointsMatchesReferenceRow, standIns := [], harness := (true, "57603ad0123e8de3536a7bc8701a14d952cbab292fee5b2484a542b628c04649"), looks := false }, kinds := [], alts := [], laidByText := true, laidKinds := [.data], laidTests := true, laidLooks := .later }
def PointsMatchesReferenceCardSaid : Prop := Claim7.holds Tryd.pinned (.plain (OpenSpec.ofChange pointsMatchesReferenceSpec)) pointsMatchesReferenceCard

/-- THE TIED CARD OF 'cohousinglaw21.PointsParts'. -/
def pointsPartsCard : Claim7 := { stood := { row := pointsPartsRow, standIns := [], harness := (true, "57603ad0123e8de3536a7bc8701a14d952cbab292fee5b2484a542b628c04649"), looks := false }, kinds := [], alts := [], laidByText := true, laidKinds := [.data], laidTests := true, laidLooks := .later }
def PointsPartsCardSaid : Prop := Claim7.holds Tryd.pinned (.plain (OpenSpec.ofChange pointsPartsSpec)) pointsPartsCard

/-- THE TIED CARD OF 'cohousinglaw21.PointsOrder'. -/
def pointsOrderCard : Claim7 := { stood := { row := pointsOrderRow, standIns := [], harness := (true, "57603ad0123e8de3536a7bc8701a14d952cbab292fee5b2484a542b628c04649"), looks := false }, kinds := [], alts := [], laidByText := true, laidKinds := [.data], laidTests := true, laidLooks := .later }
def PointsOrderCardSaid : Prop := Claim7.holds Tryd.pinned (.plain (OpenSpec.ofChange pointsOrderSpec)) pointsOrderCard

/-- THE TIED CARD OF 'cohousinglaw21.PointsWithout'. -/
def pointsWithoutCard : Claim7 := { stood := { row := pointsWithoutRow, standIns := [], harness := (true, "57603ad0123e8de3536a7bc8701a14d952cbab292fee5b2484a542b628c04649"), looks := false }, kinds := [], alts := [], laidByText := true, laidKinds := [.data], laidTests := true, laidLooks := .later }
def PointsWithoutCardSaid : Prop := Claim7.holds Tryd.pinned (.plain (OpenSpec.ofChange pointsWithoutSpec)) pointsWithoutCard

/-- THE TIED CARD OF 'cohousinglaw21.PointsMore'. -/
def pointsMoreCard : Claim7 := { stood := { row := pointsMoreRow, standIns := [], harness := (true, "57603ad0123e8de3536a7bc8701a14d952cbab292fee5b2484a542b628c04649"), looks := false }, kinds := [], alts := [], laidByText := true, laidKinds := [.data], laidTests := true, laidLooks := .later }
def PointsMoreCardSaid : Prop := Claim7.holds Tryd.pinned (.plain (OpenSpec.ofChange pointsMoreSpec)) pointsMoreCard

/-- THE TIED CARD OF 'cohousinglaw21.PointsLots'. -/
def pointsLotsCard : Claim7 := { stood := { row := pointsLotsRow, standIns := [], harness := (true, "57603ad0123e8de3536a7bc8701a14d952cbab292fee5b2484a542b628c04649"), looks := false }, kinds := [], alts := [], laidByText := true, laidKinds := [.data], laidTests := true, laidLooks := .later }
def PointsLotsCardSaid : Prop := Claim7.holds Tryd.pinned (.plain (OpenSpec.ofChange pointsLotsSpec)) pointsLotsCard

/-- THE TIED CARD OF 'cohousinglaw21.PointsWaiting'. -/
def pointsWaitingCard : Claim7 := { stood := { row := pointsWaitingRow, standIns := [], harness := (true, "57603ad0123e8de3536a7bc8701a14d952cbab292fee5b2484a542b628c04649"), looks := false }, kinds := [], alts := [], laidByText := true, laidKinds := [.data], laidTests := true, laidLooks := .later }
def PointsWaitingCardSaid : Prop := Claim7.holds Tryd.pinned (.plain (OpenSpec.ofChange pointsWaitingSpec)) pointsWaitingCard

/-- THE SECOND FORM's CARD OF 'cohousinglaw21.PointsMatchesReference'. -/
def pointsMatchesReferenceUptoCard : Claim7 := { stood := { row := pointsMatchesReferenceUptoRow, standIns := [], harness := (true, "57603ad0123e8de3536a7bc8701a14d952cbab292fee5b2484a542b628c04649"), looks := false }, kinds := [], alts := [], laidByText := true, laidKinds := [.data], laidTests := true, laidLooks := .later }
def PointsMatchesReferenceUptoCardSaid : Prop := Claim7.holds Tryd.pinned (.plain (OpenSpec.upto pointsMatchesReferenceSpec)) pointsMatchesReferenceUptoCard

/-- THE SECOND FORM's CARD OF 'cohousinglaw21.PointsParts'. -/
def pointsPartsUptoCard : Claim7 := { stood := { row := pointsPartsUptoRow, standIns := [], harness := (true, "57603ad0123e8de3536a7bc8701a14d952cbab292fee5b2484a542b628c04649"), looks := false }, kinds := [], alts := [], laidByText := true, laidKinds := [.data], laidTests := true, laidLooks := .later }
def PointsPartsUptoCardSaid : Prop := Claim7.holds Tryd.pinned (.plain (OpenSpec.upto pointsPartsSpec)) pointsPartsUptoCard

/-- THE SECOND FORM's CARD OF 'cohousinglaw21.PointsOrder'. -/
def pointsOrderUptoCard : Claim7 := { stood := { row := pointsOrderUptoRow, standIns := [], harness := (true, "57603ad0123e8de3536a7bc8701a14d952cbab292fee5b2484a542b628c04649"), looks := false }, kinds := [], alts := [], laidByText := true, laidKinds := [.data], laidTests := true, laidLooks := .later }
def PointsOrderUptoCardSaid : Prop := Claim7.holds Tryd.pinned (.plain (OpenSpec.upto pointsOrderSpec)) pointsOrderUptoCard

/-- THE SECOND FORM's CARD OF 'cohousinglaw21.PointsWithout'. -/
def pointsWithoutUptoCard : Claim7 := { stood := { row := pointsWithoutUptoRow, standIns := [], harness := (true, "57603ad0123e8de3536a7bc8701a14d952cbab292fee5b2484a542b628c04649"), looks := false }, kinds := [], alts := [], laidByText := true, laidKinds := [.data], laidTests := true, laidLooks := .later }
def PointsWithoutUptoCardSaid : Prop := Claim7.holds Tryd.pinned (.plain (OpenSpec.upto pointsWithoutSpec)) pointsWithoutUptoCard

/-- THE SECOND FORM's CARD OF 'cohousinglaw21.PointsMore'. -/
def pointsMoreUptoCard : Claim7 := { stood := { row := pointsMoreUptoRow, standIns := [], harness := (true, "57603ad0123e8de3536a7bc8701a14d952cbab292fee5b2484a542b628c04649"), looks := false }, kinds := [], alts := [], laidByText := true, laidKinds := [.data], laidTests := true, laidLooks := .later }
def PointsMoreUptoCardSaid : Prop := Claim7.holds Tryd.pinned (.plain (OpenSpec.upto pointsMoreSpec)) pointsMoreUptoCard

/-- THE SECOND FORM's CARD OF 'cohousinglaw21.PointsLots'. -/
def pointsLotsUptoCard : Claim7 := { stood := { row := pointsLotsUptoRow, standIns := [], harness := (true, "57603ad0123e8de3536a7bc8701a14d952cbab292fee5b2484a542b628c04649"), looks := false }, kinds := [], alts := [], laidByText := true, laidKinds := [.data], laidTests := true, laidLooks := .later }
def PointsLotsUptoCardSaid : Prop := Claim7.holds Tryd.pinned (.plain (OpenSpec.upto pointsLotsSpec)) pointsLotsUptoCard

/-- THE SECOND FORM's CARD OF 'cohousinglaw21.PointsWaiting'. -/
def pointsWaitingUptoCard : Claim7 := { stood := { row := pointsWaitingUptoRow, standIns := [], harness := (true, "57603ad0123e8de3536a7bc8701a14d952cbab292fee5b2484a542b628c04649"), looks := false }, kinds := [], alts := [], laidByText := true, laidKinds := [.data], laidTests := true, laidLooks := .later }
def PointsWaitingUptoCardSaid : Prop := Claim7.holds Tryd.pinned (.plain (OpenSpec.upto pointsWaitingSpec)) pointsWaitingUptoCard
end Rows
end Go.Proofs.YtfhmbfadbfnnaaaDoor
