/-
  DERIVED. GIVEN WITH THE SEED: THE CARDS: each row of YtoedmmmhcmppgaaGreatDoorRows.lean that lists a variable, with what it lists TIED to the program's text (the seventh form; the later family's looks); each row that meets fmt, with fmt's text TOLD by the authors' own Lean function (tested against real Go, not proved from fmt's source: count such statements apart). THE CARD IS WHAT COUNTS. Prove the row's statement (the work); the ties are given (YtoedmmmhcmppgaaGreatDoorTie.lean); close each card by the builder's one call (the guide's Derived/Test/ToyasCard.lean, 'card_holds'). Laid BY PROGRAM, IN A SANDBOX (cutbox-door.mjs). By AI agents, Wed Nov 11 2026. No macro, syntax, notation, axiom, sorry.
-/
import Derived.Test.YtoedmmmhcmppgaaGreatDoorRows
import GoSem.ClaimSeven
namespace Go.Proofs.YtoedmmmhcmppgaaGreatDoor
namespace Rows

/-- THE TIED CARD OF 'bombardelaw51.CompareTexts'. -/
def compareTextsCard : Claim7 := { stood := { row := compareTextsRow, standIns := [], harness := (true, "032280b46bea2eaa57fcb19b587bf625fdacba862833079dd1ecf173e9fd1208"), looks := false }, kinds := [], alts := [], laidByText := true, laidKinds := [.data, .data, .data], laidTests := true, laidLooks := .later }
def CompareTextsCardSaid : Prop := Claim7.holds Tryz.pinned (.plain (OpenSpec.ofChange compareTextsSpec)) compareTextsCard

/-- THE SECOND FORM's CARD OF 'bombardelaw51.CompareTexts'. -/
def compareTextsUptoCard : Claim7 := { stood := { row := compareTextsUptoRow, standIns := [], harness := (true, "032280b46bea2eaa57fcb19b587bf625fdacba862833079dd1ecf173e9fd1208"), looks := false }, kinds := [], alts := [], laidByText := true, laidKinds := [.data, .data, .data], laidTests := true, laidLooks := .later }
def CompareTextsUptoCardSaid : Prop := Claim7.holds Tryz.pinned (.plain (OpenSpec.upto compareTextsSpec)) compareTextsUptoCard
end Rows
end Go.Proofs.YtoedmmmhcmppgaaGreatDoor
