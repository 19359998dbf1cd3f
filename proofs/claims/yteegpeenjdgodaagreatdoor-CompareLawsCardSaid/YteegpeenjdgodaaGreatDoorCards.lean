/-
  DERIVED. GIVEN WITH THE SEED: THE CARDS: each row of YteegpeenjdgodaaGreatDoorRows.lean that lists a variable, with what it lists TIED to the program's text (the seventh form; the later family's looks); each row that meets fmt, with fmt's text TOLD by the authors' own Lean function (tested against real Go, not proved from fmt's source: count such statements apart). THE CARD IS WHAT COUNTS. Prove the row's statement (the work); the ties are given (YteegpeenjdgodaaGreatDoorTie.lean); close each card by the builder's one call (the guide's Derived/Test/ToyasCard.lean, 'card_holds'). Laid BY PROGRAM, IN A SANDBOX (cutbox-door.mjs). By AI agents, Wed Nov 11 2026. No macro, syntax, notation, axiom, sorry.
-/
import Derived.Test.YteegpeenjdgodaaGreatDoorRows
import GoSem.ClaimSeven
namespace Go.Proofs.YteegpeenjdgodaaGreatDoor
namespace Rows

/-- THE TIED CARD OF 'bombardelaw51.CompareSlips'. -/
def compareSlipsCard : Claim7 := { stood := { row := compareSlipsRow, standIns := [], harness := (true, "fb728158b6e916623bad043b76e2826853c2cfa1ed62eb5aad62ad7867ddaab4"), looks := false }, kinds := [], alts := [], laidByText := true, laidKinds := [.data, .data, .data], laidTests := true, laidLooks := .later }
def CompareSlipsCardSaid : Prop := Claim7.holds Tryz.pinned (.plain (OpenSpec.ofChange compareSlipsSpec)) compareSlipsCard

/-- THE TIED CARD OF 'bombardelaw51.CompareLists'. -/
def compareListsCard : Claim7 := { stood := { row := compareListsRow, standIns := [], harness := (true, "fb728158b6e916623bad043b76e2826853c2cfa1ed62eb5aad62ad7867ddaab4"), looks := false }, kinds := [], alts := [], laidByText := true, laidKinds := [.data, .data, .data], laidTests := true, laidLooks := .later }
def CompareListsCardSaid : Prop := Claim7.holds Tryz.pinned (.plain (OpenSpec.ofChange compareListsSpec)) compareListsCard

/-- THE TIED CARD OF 'bombardelaw51.CompareCommon'. -/
def compareCommonCard : Claim7 := { stood := { row := compareCommonRow, standIns := [], harness := (true, "fb728158b6e916623bad043b76e2826853c2cfa1ed62eb5aad62ad7867ddaab4"), looks := false }, kinds := [], alts := [], laidByText := true, laidKinds := [.data, .data, .data], laidTests := true, laidLooks := .later }
def CompareCommonCardSaid : Prop := Claim7.holds Tryz.pinned (.plain (OpenSpec.ofChange compareCommonSpec)) compareCommonCard

/-- THE TIED CARD OF 'bombardelaw51.CompareBacks'. -/
def compareBacksCard : Claim7 := { stood := { row := compareBacksRow, standIns := [], harness := (true, "fb728158b6e916623bad043b76e2826853c2cfa1ed62eb5aad62ad7867ddaab4"), looks := false }, kinds := [], alts := [], laidByText := true, laidKinds := [.data, .data, .data], laidTests := true, laidLooks := .later }
def CompareBacksCardSaid : Prop := Claim7.holds Tryz.pinned (.plain (OpenSpec.ofChange compareBacksSpec)) compareBacksCard

/-- THE TIED CARD OF 'bombardelaw51.CompareDifferences'. -/
def compareDifferencesCard : Claim7 := { stood := { row := compareDifferencesRow, standIns := [], harness := (true, "fb728158b6e916623bad043b76e2826853c2cfa1ed62eb5aad62ad7867ddaab4"), looks := false }, kinds := [], alts := [], laidByText := true, laidKinds := [.data, .data, .data], laidTests := true, laidLooks := .later }
def CompareDifferencesCardSaid : Prop := Claim7.holds Tryz.pinned (.plain (OpenSpec.ofChange compareDifferencesSpec)) compareDifferencesCard

/-- THE TIED CARD OF 'bombardelaw51.CompareLaws'. -/
def compareLawsCard : Claim7 := { stood := { row := compareLawsRow, standIns := [], harness := (true, "fb728158b6e916623bad043b76e2826853c2cfa1ed62eb5aad62ad7867ddaab4"), looks := false }, kinds := [], alts := [], laidByText := true, laidKinds := [.data, .data, .data], laidTests := true, laidLooks := .later }
def CompareLawsCardSaid : Prop := Claim7.holds Tryz.pinned (.plain (OpenSpec.ofChange compareLawsSpec)) compareLawsCard

/-- THE TIED CARD OF 'bombardelaw51.CompareApplies'. -/
def compareAppliesCard : Claim7 := { stood := { row := compareAppliesRow, standIns := [], harness := (true, "fb728158b6e916623bad043b76e2826853c2cfa1ed62eb5aad62ad7867ddaab4"), looks := false }, kinds := [], alts := [], laidByText := true, laidKinds := [.data, .data, .data], laidTests := true, laidLooks := .later }
def CompareAppliesCardSaid : Prop := Claim7.holds Tryz.pinned (.plain (OpenSpec.ofChange compareAppliesSpec)) compareAppliesCard

/-- THE SECOND FORM's CARD OF 'bombardelaw51.CompareSlips'. -/
def compareSlipsUptoCard : Claim7 := { stood := { row := compareSlipsUptoRow, standIns := [], harness := (true, "fb728158b6e916623bad043b76e2826853c2cfa1ed62eb5aad62ad7867ddaab4"), looks := false }, kinds := [], alts := [], laidByText := true, laidKinds := [.data, .data, .data], laidTests := true, laidLooks := .later }
def CompareSlipsUptoCardSaid : Prop := Claim7.holds Tryz.pinned (.plain (OpenSpec.upto compareSlipsSpec)) compareSlipsUptoCard

/-- THE SECOND FORM's CARD OF 'bombardelaw51.CompareLists'. -/
def compareListsUptoCard : Claim7 := { stood := { row := compareListsUptoRow, standIns := [], harness := (true, "fb728158b6e916623bad043b76e2826853c2cfa1ed62eb5aad62ad7867ddaab4"), looks := false }, kinds := [], alts := [], laidByText := true, laidKinds := [.data, .data, .data], laidTests := true, laidLooks := .later }
def CompareListsUptoCardSaid : Prop := Claim7.holds Tryz.pinned (.plain (OpenSpec.upto compareListsSpec)) compareListsUptoCard

/-- THE SECOND FORM's CARD OF 'bombardelaw51.CompareCommon'. -/
def compareCommonUptoCard : Claim7 := { stood := { row := compareCommonUptoRow, standIns := [], harness := (true, "fb728158b6e916623bad043b76e2826853c2cfa1ed62eb5aad62ad7867ddaab4"), looks := false }, kinds := [], alts := [], laidByText := true, laidKinds := [.data, .data, .data], laidTests := true, laidLooks := .later }
def CompareCommonUptoCardSaid : Prop := Claim7.holds Tryz.pinned (.plain (OpenSpec.upto compareCommonSpec)) compareCommonUptoCard

/-- THE SECOND FORM's CARD OF 'bombardelaw51.CompareBacks'. -/
def compareBacksUptoCard : Claim7 := { stood := { row := compareBacksUptoRow, standIns := [], harness := (true, "fb728158b6e916623bad043b76e2826853c2cfa1ed62eb5aad62ad7867ddaab4"), looks := false }, kinds := [], alts := [], laidByText := true, laidKinds := [.data, .data, .data], laidTests := true, laidLooks := .later }
def CompareBacksUptoCardSaid : Prop := Claim7.holds Tryz.pinned (.plain (OpenSpec.upto compareBacksSpec)) compareBacksUptoCard

/-- THE SECOND FORM's CARD OF 'bombardelaw51.CompareDifferences'. -/
def compareDifferencesUptoCard : Claim7 := { stood := { row := compareDifferencesUptoRow, standIns := [], harness := (true, "fb728158b6e916623bad043b76e2826853c2cfa1ed62eb5aad62ad7867ddaab4"), looks := false }, kinds := [], alts := [], laidByText := true, laidKinds := [.data, .data, .data], laidTests := true, laidLooks := .later }
def CompareDifferencesUptoCardSaid : Prop := Claim7.holds Tryz.pinned (.plain (OpenSpec.upto compareDifferencesSpec)) compareDifferencesUptoCard

/-- THE SECOND FORM's CARD OF 'bombardelaw51.CompareLaws'. -/
def compareLawsUptoCard : Claim7 := { stood := { row := compareLawsUptoRow, standIns := [], harness := (true, "fb728158b6e916623bad043b76e2826853c2cfa1ed62eb5aad62ad7867ddaab4"), looks := false }, kinds := [], alts := [], laidByText := true, laidKinds := [.data, .data, .data], laidTests := true, laidLooks := .later }
def CompareLawsUptoCardSaid : Prop := Claim7.holds Tryz.pinned (.plain (OpenSpec.upto compareLawsSpec)) compareLawsUptoCard

/-- THE SECOND FORM's CARD OF 'bombardelaw51.CompareApplies'. -/
def compareAppliesUptoCard : Claim7 := { stood := { row := compareAppliesUptoRow, standIns := [], harness := (true, "fb728158b6e916623bad043b76e2826853c2cfa1ed62eb5aad62ad7867ddaab4"), looks := false }, kinds := [], alts := [], laidByText := true, laidKinds := [.data, .data, .data], laidTests := true, laidLooks := .later }
def CompareAppliesUptoCardSaid : Prop := Claim7.holds Tryz.pinned (.plain (OpenSpec.upto compareAppliesSpec)) compareAppliesUptoCard
end Rows
end Go.Proofs.YteegpeenjdgodaaGreatDoor
