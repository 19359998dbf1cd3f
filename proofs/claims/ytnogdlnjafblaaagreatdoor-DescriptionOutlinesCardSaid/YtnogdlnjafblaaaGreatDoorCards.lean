/-
  DERIVED. GIVEN WITH THE SEED: THE CARDS: each row of YtnogdlnjafblaaaGreatDoorRows.lean that lists a variable, with what it lists TIED to the program's text (the seventh form; the later family's looks); each row that meets fmt, with fmt's text TOLD by the authors' own Lean function (tested against real Go, not proved from fmt's source: count such statements apart). THE CARD IS WHAT COUNTS. Prove the row's statement (the work); the ties are given (YtnogdlnjafblaaaGreatDoorTie.lean); close each card by the builder's one call (the guide's Derived/Test/ToyasCard.lean, 'card_holds'). Laid BY PROGRAM, IN A SANDBOX (cutbox-door.mjs). By AI agents, Wed Nov 11 2026. No macro, syntax, notation, axiom, sorry.
-/
import Derived.Test.YtnogdlnjafblaaaGreatDoorRows
import GoSem.ClaimSeven
namespace Go.Proofs.YtnogdlnjafblaaaGreatDoor
namespace Rows

/-- THE TIED CARD OF 'bombardelaw20.DescriptionFeet'. -/
def descriptionFeetCard : Claim7 := { stood := { row := descriptionFeetRow, standIns := [], harness := (true, "8f013cedd3b2edc27d9618cb82c6639f39825c6779d2b69040b393d233581dd0"), looks := true }, kinds := [], alts := [], laidByText := true, laidKinds := [.data, .data, .data, .data, .pinned], laidTests := true, laidLooks := .later }
def DescriptionFeetCardSaid : Prop := Claim7.holds Tryz.pinned (.plain (OpenSpec.ofChange descriptionFeetSpec)) descriptionFeetCard

/-- THE TIED CARD OF 'bombardelaw20.DescriptionTexts'. -/
def descriptionTextsCard : Claim7 := { stood := { row := descriptionTextsRow, standIns := [], harness := (true, "8f013cedd3b2edc27d9618cb82c6639f39825c6779d2b69040b393d233581dd0"), looks := true }, kinds := [], alts := [], laidByText := true, laidKinds := [.data, .data, .data, .data, .pinned], laidTests := true, laidLooks := .later }
def DescriptionTextsCardSaid : Prop := Claim7.holds Tryz.pinned (.plain (OpenSpec.ofChange descriptionTextsSpec)) descriptionTextsCard

/-- THE TIED CARD OF 'bombardelaw20.DescriptionOutlines'. -/
def descriptionOutlinesCard : Claim7 := { stood := { row := descriptionOutlinesRow, standIns := [], harness := (true, "8f013cedd3b2edc27d9618cb82c6639f39825c6779d2b69040b393d233581dd0"), looks := true }, kinds := [], alts := [], laidByText := true, laidKinds := [.data, .data, .data, .data, .pinned], laidTests := true, laidLooks := .later }
def DescriptionOutlinesCardSaid : Prop := Claim7.holds Tryz.pinned (.plain (OpenSpec.ofChange descriptionOutlinesSpec)) descriptionOutlinesCard

/-- THE TIED CARD OF 'bombardelaw20.DescriptionErrors'. -/
def descriptionErrorsCard : Claim7 := { stood := { row := descriptionErrorsRow, standIns := [], harness := (true, "8f013cedd3b2edc27d9618cb82c6639f39825c6779d2b69040b393d233581dd0"), looks := true }, kinds := [], alts := [], laidByText := true, laidKinds := [.data, .data, .data, .data, .pinned], laidTests := true, laidLooks := .later }
def DescriptionErrorsCardSaid : Prop := Claim7.holds Tryz.pinned (.plain (OpenSpec.ofChange descriptionErrorsSpec)) descriptionErrorsCard

/-- THE TIED CARD OF 'bombardelaw20.DescriptionStops'. -/
def descriptionStopsCard : Claim7 := { stood := { row := descriptionStopsRow, standIns := [], harness := (true, "8f013cedd3b2edc27d9618cb82c6639f39825c6779d2b69040b393d233581dd0"), looks := true }, kinds := [], alts := [], laidByText := true, laidKinds := [.data, .data, .data, .data, .pinned], laidTests := true, laidLooks := .later }
def DescriptionStopsCardSaid : Prop := Claim7.holds Tryz.pinned (.plain (OpenSpec.ofChange descriptionStopsSpec)) descriptionStopsCard

/-- THE TIED CARD OF 'bombardelaw20.DescriptionPrints'. -/
def descriptionPrintsCard : Claim7 := { stood := { row := descriptionPrintsRow, standIns := [], harness := (true, "8f013cedd3b2edc27d9618cb82c6639f39825c6779d2b69040b393d233581dd0"), looks := true }, kinds := [], alts := [], laidByText := true, laidKinds := [.data, .data, .data, .data, .pinned], laidTests := true, laidLooks := .later }
def DescriptionPrintsCardSaid : Prop := Claim7.holds Tryz.pinned (.plain (OpenSpec.ofChange descriptionPrintsSpec)) descriptionPrintsCard

/-- THE TIED CARD OF 'bombardelaw20.DescriptionParses'. -/
def descriptionParsesCard : Claim7 := { stood := { row := descriptionParsesRow, standIns := [], harness := (true, "8f013cedd3b2edc27d9618cb82c6639f39825c6779d2b69040b393d233581dd0"), looks := true }, kinds := [], alts := [], laidByText := true, laidKinds := [.data, .data, .data, .data, .pinned], laidTests := true, laidLooks := .later }
def DescriptionParsesCardSaid : Prop := Claim7.holds Tryz.pinned (.plain (OpenSpec.ofChange descriptionParsesSpec)) descriptionParsesCard

/-- THE TIED CARD OF 'bombardelaw20.DescriptionBlanks'. -/
def descriptionBlanksCard : Claim7 := { stood := { row := descriptionBlanksRow, standIns := [], harness := (true, "8f013cedd3b2edc27d9618cb82c6639f39825c6779d2b69040b393d233581dd0"), looks := true }, kinds := [], alts := [], laidByText := true, laidKinds := [.data, .data, .data, .data, .pinned], laidTests := true, laidLooks := .later }
def DescriptionBlanksCardSaid : Prop := Claim7.holds Tryz.pinned (.plain (OpenSpec.ofChange descriptionBlanksSpec)) descriptionBlanksCard

/-- THE SECOND FORM's CARD OF 'bombardelaw20.DescriptionFeet'. -/
def descriptionFeetUptoCard : Claim7 := { stood := { row := descriptionFeetUptoRow, standIns := [], harness := (true, "8f013cedd3b2edc27d9618cb82c6639f39825c6779d2b69040b393d233581dd0"), looks := true }, kinds := [], alts := [], laidByText := true, laidKinds := [.data, .data, .data, .data, .pinned], laidTests := true, laidLooks := .later }
def DescriptionFeetUptoCardSaid : Prop := Claim7.holds Tryz.pinned (.plain (OpenSpec.upto descriptionFeetSpec)) descriptionFeetUptoCard

/-- THE SECOND FORM's CARD OF 'bombardelaw20.DescriptionTexts'. -/
def descriptionTextsUptoCard : Claim7 := { stood := { row := descriptionTextsUptoRow, standIns := [], harness := (true, "8f013cedd3b2edc27d9618cb82c6639f39825c6779d2b69040b393d233581dd0"), looks := true }, kinds := [], alts := [], laidByText := true, laidKinds := [.data, .data, .data, .data, .pinned], laidTests := true, laidLooks := .later }
def DescriptionTextsUptoCardSaid : Prop := Claim7.holds Tryz.pinned (.plain (OpenSpec.upto descriptionTextsSpec)) descriptionTextsUptoCard

/-- THE SECOND FORM's CARD OF 'bombardelaw20.DescriptionOutlines'. -/
def descriptionOutlinesUptoCard : Claim7 := { stood := { row := descriptionOutlinesUptoRow, standIns := [], harness := (true, "8f013cedd3b2edc27d9618cb82c6639f39825c6779d2b69040b393d233581dd0"), looks := true }, kinds := [], alts := [], laidByText := true, laidKinds := [.data, .data, .data, .data, .pinned], laidTests := true, laidLooks := .later }
def DescriptionOutlinesUptoCardSaid : Prop := Claim7.holds Tryz.pinned (.plain (OpenSpec.upto descriptionOutlinesSpec)) descriptionOutlinesUptoCard

/-- THE SECOND FORM's CARD OF 'bombardelaw20.DescriptionErrors'. -/
def descriptionErrorsUptoCard : Claim7 := { stood := { row := descriptionErrorsUptoRow, standIns := [], harness := (true, "8f013cedd3b2edc27d9618cb82c6639f39825c6779d2b69040b393d233581dd0"), looks := true }, kinds := [], alts := [], laidByText := true, laidKinds := [.data, .data, .data, .data, .pinned], laidTests := true, laidLooks := .later }
def DescriptionErrorsUptoCardSaid : Prop := Claim7.holds Tryz.pinned (.plain (OpenSpec.upto descriptionErrorsSpec)) descriptionErrorsUptoCard

/-- THE SECOND FORM's CARD OF 'bombardelaw20.DescriptionStops'. -/
def descriptionStopsUptoCard : Claim7 := { stood := { row := descriptionStopsUptoRow, standIns := [], harness := (true, "8f013cedd3b2edc27d9618cb82c6639f39825c6779d2b69040b393d233581dd0"), looks := true }, kinds := [], alts := [], laidByText := true, laidKinds := [.data, .data, .data, .data, .pinned], laidTests := true, laidLooks := .later }
def DescriptionStopsUptoCardSaid : Prop := Claim7.holds Tryz.pinned (.plain (OpenSpec.upto descriptionStopsSpec)) descriptionStopsUptoCard

/-- THE SECOND FORM's CARD OF 'bombardelaw20.DescriptionPrints'. -/
def descriptionPrintsUptoCard : Claim7 := { stood := { row := descriptionPrintsUptoRow, standIns := [], harness := (true, "8f013cedd3b2edc27d9618cb82c6639f39825c6779d2b69040b393d233581dd0"), looks := true }, kinds := [], alts := [], laidByText := true, laidKinds := [.data, .data, .data, .data, .pinned], laidTests := true, laidLooks := .later }
def DescriptionPrintsUptoCardSaid : Prop := Claim7.holds Tryz.pinned (.plain (OpenSpec.upto descriptionPrintsSpec)) descriptionPrintsUptoCard

/-- THE SECOND FORM's CARD OF 'bombardelaw20.DescriptionParses'. -/
def descriptionParsesUptoCard : Claim7 := { stood := { row := descriptionParsesUptoRow, standIns := [], harness := (true, "8f013cedd3b2edc27d9618cb82c6639f39825c6779d2b69040b393d233581dd0"), looks := true }, kinds := [], alts := [], laidByText := true, laidKinds := [.data, .data, .data, .data, .pinned], laidTests := true, laidLooks := .later }
def DescriptionParsesUptoCardSaid : Prop := Claim7.holds Tryz.pinned (.plain (OpenSpec.upto descriptionParsesSpec)) descriptionParsesUptoCard

/-- THE SECOND FORM's CARD OF 'bombardelaw20.DescriptionBlanks'. -/
def descriptionBlanksUptoCard : Claim7 := { stood := { row := descriptionBlanksUptoRow, standIns := [], harness := (true, "8f013cedd3b2edc27d9618cb82c6639f39825c6779d2b69040b393d233581dd0"), looks := true }, kinds := [], alts := [], laidByText := true, laidKinds := [.data, .data, .data, .data, .pinned], laidTests := true, laidLooks := .later }
def DescriptionBlanksUptoCardSaid : Prop := Claim7.holds Tryz.pinned (.plain (OpenSpec.upto descriptionBlanksSpec)) descriptionBlanksUptoCard
end Rows
end Go.Proofs.YtnogdlnjafblaaaGreatDoor
