/-
  DERIVED. GIVEN WITH THE SEED: THE CARDS: each row of YtclleofcjnggaaaDoorRows.lean that lists a variable, with what it lists TIED to the program's text (the seventh form; the later family's looks); each row that meets fmt, with fmt's text TOLD by the authors' own Lean function (tested against real Go, not proved from fmt's source: count such statements apart). THE CARD IS WHAT COUNTS. Prove the row's statement (the work); the ties are given (YtclleofcjnggaaaDoorTie.lean); close each card by the builder's one call (the guide's Derived/Test/ToyasCard.lean, 'card_holds'). Laid BY PROGRAM, IN A SANDBOX (cutbox-door.mjs). By AI agents, Wed Nov 11 2026. No macro, syntax, notation, axiom, sorry.
-/
import Derived.Test.YtclleofcjnggaaaDoorRows
import GoSem.ClaimSeven
namespace Go.Proofs.YtclleofcjnggaaaDoor
namespace Rows

/-- THE TIED CARD OF 'bombardelaw11.SpanDivides'. -/
def spanDividesCard : Claim7 := { stood := { row := spanDividesRow, standIns := [], harness := (true, "40abfb383b17e30e6d7cad2be2972cbafc1276e76edec2d6e229a2e74b8f3c14"), looks := false }, kinds := [], alts := [], laidByText := true, laidKinds := [.data], laidTests := true, laidLooks := .later }
def SpanDividesCardSaid : Prop := Claim7.holds Tryd.pinned (.plain (OpenSpec.ofChange spanDividesSpec)) spanDividesCard

/-- THE TIED CARD OF 'bombardelaw11.SpanCrosses'. -/
def spanCrossesCard : Claim7 := { stood := { row := spanCrossesRow, standIns := [], harness := (true, "40abfb383b17e30e6d7cad2be2972cbafc1276e76edec2d6e229a2e74b8f3c14"), looks := false }, kinds := [], alts := [], laidByText := true, laidKinds := [.data], laidTests := true, laidLooks := .later }
def SpanCrossesCardSaid : Prop := Claim7.holds Tryd.pinned (.plain (OpenSpec.ofChange spanCrossesSpec)) spanCrossesCard

/-- THE TIED CARD OF 'bombardelaw11.SpanLeast'. -/
def spanLeastCard : Claim7 := { stood := { row := spanLeastRow, standIns := [], harness := (true, "40abfb383b17e30e6d7cad2be2972cbafc1276e76edec2d6e229a2e74b8f3c14"), looks := false }, kinds := [], alts := [], laidByText := true, laidKinds := [.data], laidTests := true, laidLooks := .later }
def SpanLeastCardSaid : Prop := Claim7.holds Tryd.pinned (.plain (OpenSpec.ofChange spanLeastSpec)) spanLeastCard

/-- THE TIED CARD OF 'bombardelaw11.SpanCounts'. -/
def spanCountsCard : Claim7 := { stood := { row := spanCountsRow, standIns := [], harness := (true, "40abfb383b17e30e6d7cad2be2972cbafc1276e76edec2d6e229a2e74b8f3c14"), looks := false }, kinds := [], alts := [], laidByText := true, laidKinds := [.data], laidTests := true, laidLooks := .later }
def SpanCountsCardSaid : Prop := Claim7.holds Tryd.pinned (.plain (OpenSpec.ofChange spanCountsSpec)) spanCountsCard

/-- THE TIED CARD OF 'bombardelaw11.SpanHands'. -/
def spanHandsCard : Claim7 := { stood := { row := spanHandsRow, standIns := [], harness := (true, "40abfb383b17e30e6d7cad2be2972cbafc1276e76edec2d6e229a2e74b8f3c14"), looks := false }, kinds := [], alts := [], laidByText := true, laidKinds := [.data], laidTests := true, laidLooks := .later }
def SpanHandsCardSaid : Prop := Claim7.holds Tryd.pinned (.plain (OpenSpec.ofChange spanHandsSpec)) spanHandsCard

/-- THE TIED CARD OF 'bombardelaw11.SpanGrows'. -/
def spanGrowsCard : Claim7 := { stood := { row := spanGrowsRow, standIns := [], harness := (true, "40abfb383b17e30e6d7cad2be2972cbafc1276e76edec2d6e229a2e74b8f3c14"), looks := false }, kinds := [], alts := [], laidByText := true, laidKinds := [.data], laidTests := true, laidLooks := .later }
def SpanGrowsCardSaid : Prop := Claim7.holds Tryd.pinned (.plain (OpenSpec.ofChange spanGrowsSpec)) spanGrowsCard

/-- THE TIED CARD OF 'bombardelaw11.SpanFeet'. -/
def spanFeetCard : Claim7 := { stood := { row := spanFeetRow, standIns := [], harness := (true, "40abfb383b17e30e6d7cad2be2972cbafc1276e76edec2d6e229a2e74b8f3c14"), looks := false }, kinds := [], alts := [], laidByText := true, laidKinds := [.data], laidTests := true, laidLooks := .later }
def SpanFeetCardSaid : Prop := Claim7.holds Tryd.pinned (.plain (OpenSpec.ofChange spanFeetSpec)) spanFeetCard

/-- THE TIED CARD OF 'bombardelaw11.SpanPlays'. -/
def spanPlaysCard : Claim7 := { stood := { row := spanPlaysRow, standIns := [], harness := (true, "40abfb383b17e30e6d7cad2be2972cbafc1276e76edec2d6e229a2e74b8f3c14"), looks := false }, kinds := [], alts := [], laidByText := true, laidKinds := [.data], laidTests := true, laidLooks := .later }
def SpanPlaysCardSaid : Prop := Claim7.holds Tryd.pinned (.plain (OpenSpec.ofChange spanPlaysSpec)) spanPlaysCard

/-- THE TIED CARD OF 'bombardelaw11.SpanErrors'. -/
def spanErrorsCard : Claim7 := { stood := { row := spanErrorsRow, standIns := [], harness := (true, "40abfb383b17e30e6d7cad2be2972cbafc1276e76edec2d6e229a2e74b8f3c14"), looks := false }, kinds := [], alts := [], laidByText := true, laidKinds := [.data], laidTests := true, laidLooks := .later }
def SpanErrorsCardSaid : Prop := Claim7.holds Tryd.pinned (.plain (OpenSpec.ofChange spanErrorsSpec)) spanErrorsCard

/-- THE SECOND FORM's CARD OF 'bombardelaw11.SpanDivides'. -/
def spanDividesUptoCard : Claim7 := { stood := { row := spanDividesUptoRow, standIns := [], harness := (true, "40abfb383b17e30e6d7cad2be2972cbafc1276e76edec2d6e229a2e74b8f3c14"), looks := false }, kinds := [], alts := [], laidByText := true, laidKinds := [.data], laidTests := true, laidLooks := .later }
def SpanDividesUptoCardSaid : Prop := Claim7.holds Tryd.pinned (.plain (OpenSpec.upto spanDividesSpec)) spanDividesUptoCard

/-- THE SECOND FORM's CARD OF 'bombardelaw11.SpanCrosses'. -/
def spanCrossesUptoCard : Claim7 := { stood := { row := spanCrossesUptoRow, standIns := [], harness := (true, "40abfb383b17e30e6d7cad2be2972cbafc1276e76edec2d6e229a2e74b8f3c14"), looks := false }, kinds := [], alts := [], laidByText := true, laidKinds := [.data], laidTests := true, laidLooks := .later }
def SpanCrossesUptoCardSaid : Prop := Claim7.holds Tryd.pinned (.plain (OpenSpec.upto spanCrossesSpec)) spanCrossesUptoCard

/-- THE SECOND FORM's CARD OF 'bombardelaw11.SpanLeast'. -/
def spanLeastUptoCard : Claim7 := { stood := { row := spanLeastUptoRow, standIns := [], harness := (true, "40abfb383b17e30e6d7cad2be2972cbafc1276e76edec2d6e229a2e74b8f3c14"), looks := false }, kinds := [], alts := [], laidByText := true, laidKinds := [.data], laidTests := true, laidLooks := .later }
def SpanLeastUptoCardSaid : Prop := Claim7.holds Tryd.pinned (.plain (OpenSpec.upto spanLeastSpec)) spanLeastUptoCard

/-- THE SECOND FORM's CARD OF 'bombardelaw11.SpanCounts'. -/
def spanCountsUptoCard : Claim7 := { stood := { row := spanCountsUptoRow, standIns := [], harness := (true, "40abfb383b17e30e6d7cad2be2972cbafc1276e76edec2d6e229a2e74b8f3c14"), looks := false }, kinds := [], alts := [], laidByText := true, laidKinds := [.data], laidTests := true, laidLooks := .later }
def SpanCountsUptoCardSaid : Prop := Claim7.holds Tryd.pinned (.plain (OpenSpec.upto spanCountsSpec)) spanCountsUptoCard

/-- THE SECOND FORM's CARD OF 'bombardelaw11.SpanHands'. -/
def spanHandsUptoCard : Claim7 := { stood := { row := spanHandsUptoRow, standIns := [], harness := (true, "40abfb383b17e30e6d7cad2be2972cbafc1276e76edec2d6e229a2e74b8f3c14"), looks := false }, kinds := [], alts := [], laidByText := true, laidKinds := [.data], laidTests := true, laidLooks := .later }
def SpanHandsUptoCardSaid : Prop := Claim7.holds Tryd.pinned (.plain (OpenSpec.upto spanHandsSpec)) spanHandsUptoCard

/-- THE SECOND FORM's CARD OF 'bombardelaw11.SpanGrows'. -/
def spanGrowsUptoCard : Claim7 := { stood := { row := spanGrowsUptoRow, standIns := [], harness := (true, "40abfb383b17e30e6d7cad2be2972cbafc1276e76edec2d6e229a2e74b8f3c14"), looks := false }, kinds := [], alts := [], laidByText := true, laidKinds := [.data], laidTests := true, laidLooks := .later }
def SpanGrowsUptoCardSaid : Prop := Claim7.holds Tryd.pinned (.plain (OpenSpec.upto spanGrowsSpec)) spanGrowsUptoCard

/-- THE SECOND FORM's CARD OF 'bombardelaw11.SpanFeet'. -/
def spanFeetUptoCard : Claim7 := { stood := { row := spanFeetUptoRow, standIns := [], harness := (true, "40abfb383b17e30e6d7cad2be2972cbafc1276e76edec2d6e229a2e74b8f3c14"), looks := false }, kinds := [], alts := [], laidByText := true, laidKinds := [.data], laidTests := true, laidLooks := .later }
def SpanFeetUptoCardSaid : Prop := Claim7.holds Tryd.pinned (.plain (OpenSpec.upto spanFeetSpec)) spanFeetUptoCard

/-- THE SECOND FORM's CARD OF 'bombardelaw11.SpanPlays'. -/
def spanPlaysUptoCard : Claim7 := { stood := { row := spanPlaysUptoRow, standIns := [], harness := (true, "40abfb383b17e30e6d7cad2be2972cbafc1276e76edec2d6e229a2e74b8f3c14"), looks := false }, kinds := [], alts := [], laidByText := true, laidKinds := [.data], laidTests := true, laidLooks := .later }
def SpanPlaysUptoCardSaid : Prop := Claim7.holds Tryd.pinned (.plain (OpenSpec.upto spanPlaysSpec)) spanPlaysUptoCard

/-- THE SECOND FORM's CARD OF 'bombardelaw11.SpanErrors'. -/
def spanErrorsUptoCard : Claim7 := { stood := { row := spanErrorsUptoRow, standIns := [], harness := (true, "40abfb383b17e30e6d7cad2be2972cbafc1276e76edec2d6e229a2e74b8f3c14"), looks := false }, kinds := [], alts := [], laidByText := true, laidKinds := [.data], laidTests := true, laidLooks := .later }
def SpanErrorsUptoCardSaid : Prop := Claim7.holds Tryd.pinned (.plain (OpenSpec.upto spanErrorsSpec)) spanErrorsUptoCard
end Rows
end Go.Proofs.YtclleofcjnggaaaDoor
