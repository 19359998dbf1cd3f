/-
  DERIVED. GIVEN WITH THE SEED: THE CARDS: each row of YtngmkfjeekpnpaaDoorRows.lean that lists a variable, with what it lists TIED to the program's text (the seventh form; the later family's looks); each row that meets fmt, with fmt's text TOLD by the authors' own Lean function (tested against real Go, not proved from fmt's source: count such statements apart). THE CARD IS WHAT COUNTS. Prove the row's statement (the work); the ties are given (YtngmkfjeekpnpaaDoorTie.lean); close each card by the builder's one call (the guide's Derived/Test/ToyasCard.lean, 'card_holds'). Laid BY PROGRAM, IN A SANDBOX (cutbox-door.mjs). By AI agents, Wed Nov 11 2026. No macro, syntax, notation, axiom, sorry.
-/
import Derived.Test.YtngmkfjeekpnpaaDoorRows
import GoSem.ClaimSeven
namespace Go.Proofs.YtngmkfjeekpnpaaDoor
namespace Rows

/-- THE TIED CARD OF 'bombardelaw19.LexerLimits'. -/
def lexerLimitsCard : Claim7 := { stood := { row := lexerLimitsRow, standIns := [], harness := (true, "c0be699b855568e9df29e407351f013d4f347c995e2c35068880bb9fe0430a49"), looks := false }, kinds := [], alts := [], laidByText := true, laidKinds := [.data, .data, .data, .data, .pinned], laidTests := true, laidLooks := .later }
def LexerLimitsCardSaid : Prop := Claim7.holds Tryd.pinned (.plain (OpenSpec.ofChange lexerLimitsSpec)) lexerLimitsCard

/-- THE TIED CARD OF 'bombardelaw19.LexerJoins'. -/
def lexerJoinsCard : Claim7 := { stood := { row := lexerJoinsRow, standIns := [], harness := (true, "c0be699b855568e9df29e407351f013d4f347c995e2c35068880bb9fe0430a49"), looks := false }, kinds := [], alts := [], laidByText := true, laidKinds := [.data, .data, .data, .data, .pinned], laidTests := true, laidLooks := .later }
def LexerJoinsCardSaid : Prop := Claim7.holds Tryd.pinned (.plain (OpenSpec.ofChange lexerJoinsSpec)) lexerJoinsCard

/-- THE TIED CARD OF 'bombardelaw19.LexerScans'. -/
def lexerScansCard : Claim7 := { stood := { row := lexerScansRow, standIns := [], harness := (true, "c0be699b855568e9df29e407351f013d4f347c995e2c35068880bb9fe0430a49"), looks := false }, kinds := [], alts := [], laidByText := true, laidKinds := [.data, .data, .data, .data, .pinned], laidTests := true, laidLooks := .later }
def LexerScansCardSaid : Prop := Claim7.holds Tryd.pinned (.plain (OpenSpec.ofChange lexerScansSpec)) lexerScansCard

/-- THE TIED CARD OF 'bombardelaw19.LexerBytes'. -/
def lexerBytesCard : Claim7 := { stood := { row := lexerBytesRow, standIns := [], harness := (true, "c0be699b855568e9df29e407351f013d4f347c995e2c35068880bb9fe0430a49"), looks := false }, kinds := [], alts := [], laidByText := true, laidKinds := [.data, .data, .data, .data, .pinned], laidTests := true, laidLooks := .later }
def LexerBytesCardSaid : Prop := Claim7.holds Tryd.pinned (.plain (OpenSpec.ofChange lexerBytesSpec)) lexerBytesCard

/-- THE TIED CARD OF 'bombardelaw19.LexerWrites'. -/
def lexerWritesCard : Claim7 := { stood := { row := lexerWritesRow, standIns := [], harness := (true, "c0be699b855568e9df29e407351f013d4f347c995e2c35068880bb9fe0430a49"), looks := false }, kinds := [], alts := [], laidByText := true, laidKinds := [.data, .data, .data, .data, .pinned], laidTests := true, laidLooks := .later }
def LexerWritesCardSaid : Prop := Claim7.holds Tryd.pinned (.plain (OpenSpec.ofChange lexerWritesSpec)) lexerWritesCard

/-- THE TIED CARD OF 'bombardelaw19.LexerRefuses'. -/
def lexerRefusesCard : Claim7 := { stood := { row := lexerRefusesRow, standIns := [], harness := (true, "c0be699b855568e9df29e407351f013d4f347c995e2c35068880bb9fe0430a49"), looks := false }, kinds := [], alts := [], laidByText := true, laidKinds := [.data, .data, .data, .data, .pinned], laidTests := true, laidLooks := .later }
def LexerRefusesCardSaid : Prop := Claim7.holds Tryd.pinned (.plain (OpenSpec.ofChange lexerRefusesSpec)) lexerRefusesCard

/-- THE TIED CARD OF 'bombardelaw19.LexerNil'. -/
def lexerNilCard : Claim7 := { stood := { row := lexerNilRow, standIns := [], harness := (true, "c0be699b855568e9df29e407351f013d4f347c995e2c35068880bb9fe0430a49"), looks := false }, kinds := [], alts := [], laidByText := true, laidKinds := [.data, .data, .data, .data, .pinned], laidTests := true, laidLooks := .later }
def LexerNilCardSaid : Prop := Claim7.holds Tryd.pinned (.plain (OpenSpec.ofChange lexerNilSpec)) lexerNilCard

/-- THE TIED CARD OF 'bombardelaw19.LexerReads'. -/
def lexerReadsCard : Claim7 := { stood := { row := lexerReadsRow, standIns := [], harness := (true, "c0be699b855568e9df29e407351f013d4f347c995e2c35068880bb9fe0430a49"), looks := false }, kinds := [], alts := [], laidByText := true, laidKinds := [.data, .data, .data, .data, .pinned], laidTests := true, laidLooks := .later }
def LexerReadsCardSaid : Prop := Claim7.holds Tryd.pinned (.plain (OpenSpec.ofChange lexerReadsSpec)) lexerReadsCard

/-- THE SECOND FORM's CARD OF 'bombardelaw19.LexerLimits'. -/
def lexerLimitsUptoCard : Claim7 := { stood := { row := lexerLimitsUptoRow, standIns := [], harness := (true, "c0be699b855568e9df29e407351f013d4f347c995e2c35068880bb9fe0430a49"), looks := false }, kinds := [], alts := [], laidByText := true, laidKinds := [.data, .data, .data, .data, .pinned], laidTests := true, laidLooks := .later }
def LexerLimitsUptoCardSaid : Prop := Claim7.holds Tryd.pinned (.plain (OpenSpec.upto lexerLimitsSpec)) lexerLimitsUptoCard

/-- THE SECOND FORM's CARD OF 'bombardelaw19.LexerJoins'. -/
def lexerJoinsUptoCard : Claim7 := { stood := { row := lexerJoinsUptoRow, standIns := [], harness := (true, "c0be699b855568e9df29e407351f013d4f347c995e2c35068880bb9fe0430a49"), looks := false }, kinds := [], alts := [], laidByText := true, laidKinds := [.data, .data, .data, .data, .pinned], laidTests := true, laidLooks := .later }
def LexerJoinsUptoCardSaid : Prop := Claim7.holds Tryd.pinned (.plain (OpenSpec.upto lexerJoinsSpec)) lexerJoinsUptoCard

/-- THE SECOND FORM's CARD OF 'bombardelaw19.LexerScans'. -/
def lexerScansUptoCard : Claim7 := { stood := { row := lexerScansUptoRow, standIns := [], harness := (true, "c0be699b855568e9df29e407351f013d4f347c995e2c35068880bb9fe0430a49"), looks := false }, kinds := [], alts := [], laidByText := true, laidKinds := [.data, .data, .data, .data, .pinned], laidTests := true, laidLooks := .later }
def LexerScansUptoCardSaid : Prop := Claim7.holds Tryd.pinned (.plain (OpenSpec.upto lexerScansSpec)) lexerScansUptoCard

/-- THE SECOND FORM's CARD OF 'bombardelaw19.LexerBytes'. -/
def lexerBytesUptoCard : Claim7 := { stood := { row := lexerBytesUptoRow, standIns := [], harness := (true, "c0be699b855568e9df29e407351f013d4f347c995e2c35068880bb9fe0430a49"), looks := false }, kinds := [], alts := [], laidByText := true, laidKinds := [.data, .data, .data, .data, .pinned], laidTests := true, laidLooks := .later }
def LexerBytesUptoCardSaid : Prop := Claim7.holds Tryd.pinned (.plain (OpenSpec.upto lexerBytesSpec)) lexerBytesUptoCard

/-- THE SECOND FORM's CARD OF 'bombardelaw19.LexerWrites'. -/
def lexerWritesUptoCard : Claim7 := { stood := { row := lexerWritesUptoRow, standIns := [], harness := (true, "c0be699b855568e9df29e407351f013d4f347c995e2c35068880bb9fe0430a49"), looks := false }, kinds := [], alts := [], laidByText := true, laidKinds := [.data, .data, .data, .data, .pinned], laidTests := true, laidLooks := .later }
def LexerWritesUptoCardSaid : Prop := Claim7.holds Tryd.pinned (.plain (OpenSpec.upto lexerWritesSpec)) lexerWritesUptoCard

/-- THE SECOND FORM's CARD OF 'bombardelaw19.LexerRefuses'. -/
def lexerRefusesUptoCard : Claim7 := { stood := { row := lexerRefusesUptoRow, standIns := [], harness := (true, "c0be699b855568e9df29e407351f013d4f347c995e2c35068880bb9fe0430a49"), looks := false }, kinds := [], alts := [], laidByText := true, laidKinds := [.data, .data, .data, .data, .pinned], laidTests := true, laidLooks := .later }
def LexerRefusesUptoCardSaid : Prop := Claim7.holds Tryd.pinned (.plain (OpenSpec.upto lexerRefusesSpec)) lexerRefusesUptoCard

/-- THE SECOND FORM's CARD OF 'bombardelaw19.LexerNil'. -/
def lexerNilUptoCard : Claim7 := { stood := { row := lexerNilUptoRow, standIns := [], harness := (true, "c0be699b855568e9df29e407351f013d4f347c995e2c35068880bb9fe0430a49"), looks := false }, kinds := [], alts := [], laidByText := true, laidKinds := [.data, .data, .data, .data, .pinned], laidTests := true, laidLooks := .later }
def LexerNilUptoCardSaid : Prop := Claim7.holds Tryd.pinned (.plain (OpenSpec.upto lexerNilSpec)) lexerNilUptoCard

/-- THE SECOND FORM's CARD OF 'bombardelaw19.LexerReads'. -/
def lexerReadsUptoCard : Claim7 := { stood := { row := lexerReadsUptoRow, standIns := [], harness := (true, "c0be699b855568e9df29e407351f013d4f347c995e2c35068880bb9fe0430a49"), looks := false }, kinds := [], alts := [], laidByText := true, laidKinds := [.data, .data, .data, .data, .pinned], laidTests := true, laidLooks := .later }
def LexerReadsUptoCardSaid : Prop := Claim7.holds Tryd.pinned (.plain (OpenSpec.upto lexerReadsSpec)) lexerReadsUptoCard
end Rows
end Go.Proofs.YtngmkfjeekpnpaaDoor
