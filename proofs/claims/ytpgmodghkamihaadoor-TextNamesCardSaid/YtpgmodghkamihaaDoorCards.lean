/-
  DERIVED. GIVEN WITH THE SEED: THE CARDS: each row of YtpgmodghkamihaaDoorRows.lean that lists a variable, with what it lists TIED to the program's text (the seventh form; the later family's looks); each row that meets fmt, with fmt's text TOLD by the authors' own Lean function (tested against real Go, not proved from fmt's source: count such statements apart). THE CARD IS WHAT COUNTS. Prove the row's statement (the work); the ties are given (YtpgmodghkamihaaDoorTie.lean); close each card by the builder's one call (the guide's Derived/Test/ToyasCard.lean, 'card_holds'). Laid BY PROGRAM, IN A SANDBOX (cutbox-door.mjs). By AI agents, Wed Nov 11 2026. No macro, syntax, notation, axiom, sorry.
-/
import Derived.Test.YtpgmodghkamihaaDoorRows
import GoSem.ClaimSeven
namespace Go.Proofs.YtpgmodghkamihaaDoor
namespace Rows

/-- THE TIED CARD OF 'pairinglaw5.TextFields'. -/
def textFieldsCard : Claim7 := { stood := { row := textFieldsRow, standIns := [], harness := (true, "d829ee542403924c56f6f255660ba0990b621169a61b5a81f53df08c5c52f11d"), looks := true }, kinds := [], alts := [], laidByText := true, laidKinds := [.data, .pinned], laidTests := true, laidLooks := .later }
def TextFieldsCardSaid : Prop := Claim7.holds Tryd.pinned (.plain (OpenSpec.ofChange textFieldsSpec)) textFieldsCard

/-- THE TIED CARD OF 'pairinglaw5.TextFieldsBack'. -/
def textFieldsBackCard : Claim7 := { stood := { row := textFieldsBackRow, standIns := [], harness := (true, "d829ee542403924c56f6f255660ba0990b621169a61b5a81f53df08c5c52f11d"), looks := true }, kinds := [], alts := [], laidByText := true, laidKinds := [.data, .pinned], laidTests := true, laidLooks := .later }
def TextFieldsBackCardSaid : Prop := Claim7.holds Tryd.pinned (.plain (OpenSpec.ofChange textFieldsBackSpec)) textFieldsBackCard

/-- THE TIED CARD OF 'pairinglaw5.TextNames'. -/
def textNamesCard : Claim7 := { stood := { row := textNamesRow, standIns := [], harness := (true, "d829ee542403924c56f6f255660ba0990b621169a61b5a81f53df08c5c52f11d"), looks := true }, kinds := [], alts := [], laidByText := true, laidKinds := [.data, .pinned], laidTests := true, laidLooks := .later }
def TextNamesCardSaid : Prop := Claim7.holds Tryd.pinned (.plain (OpenSpec.ofChange textNamesSpec)) textNamesCard

/-- THE TIED CARD OF 'pairinglaw5.TextLines'. -/
def textLinesCard : Claim7 := { stood := { row := textLinesRow, standIns := [], harness := (true, "d829ee542403924c56f6f255660ba0990b621169a61b5a81f53df08c5c52f11d"), looks := true }, kinds := [], alts := [], laidByText := true, laidKinds := [.data, .pinned], laidTests := true, laidLooks := .later }
def TextLinesCardSaid : Prop := Claim7.holds Tryd.pinned (.plain (OpenSpec.ofChange textLinesSpec)) textLinesCard

/-- THE TIED CARD OF 'pairinglaw5.TextLimits'. -/
def textLimitsCard : Claim7 := { stood := { row := textLimitsRow, standIns := [], harness := (true, "d829ee542403924c56f6f255660ba0990b621169a61b5a81f53df08c5c52f11d"), looks := true }, kinds := [], alts := [], laidByText := true, laidKinds := [.data, .pinned], laidTests := true, laidLooks := .later }
def TextLimitsCardSaid : Prop := Claim7.holds Tryd.pinned (.plain (OpenSpec.ofChange textLimitsSpec)) textLimitsCard

/-- THE TIED CARD OF 'pairinglaw5.TextJoined'. -/
def textJoinedCard : Claim7 := { stood := { row := textJoinedRow, standIns := [], harness := (true, "d829ee542403924c56f6f255660ba0990b621169a61b5a81f53df08c5c52f11d"), looks := true }, kinds := [], alts := [], laidByText := true, laidKinds := [.data, .pinned], laidTests := true, laidLooks := .later }
def TextJoinedCardSaid : Prop := Claim7.holds Tryd.pinned (.plain (OpenSpec.ofChange textJoinedSpec)) textJoinedCard

/-- THE TIED CARD OF 'pairinglaw5.TextNumbers'. -/
def textNumbersCard : Claim7 := { stood := { row := textNumbersRow, standIns := [], harness := (true, "d829ee542403924c56f6f255660ba0990b621169a61b5a81f53df08c5c52f11d"), looks := true }, kinds := [], alts := [], laidByText := true, laidKinds := [.data, .data, .data, .data, .sentinel, .sentinel, .pinned], laidTests := true, laidLooks := .later }
def TextNumbersCardSaid : Prop := Claim7.holds Tryd.pinned (.plain (OpenSpec.ofChange textNumbersSpec)) textNumbersCard

/-- THE SECOND FORM's CARD OF 'pairinglaw5.TextFields'. -/
def textFieldsUptoCard : Claim7 := { stood := { row := textFieldsUptoRow, standIns := [], harness := (true, "d829ee542403924c56f6f255660ba0990b621169a61b5a81f53df08c5c52f11d"), looks := true }, kinds := [], alts := [], laidByText := true, laidKinds := [.data, .pinned], laidTests := true, laidLooks := .later }
def TextFieldsUptoCardSaid : Prop := Claim7.holds Tryd.pinned (.plain (OpenSpec.upto textFieldsSpec)) textFieldsUptoCard

/-- THE SECOND FORM's CARD OF 'pairinglaw5.TextFieldsBack'. -/
def textFieldsBackUptoCard : Claim7 := { stood := { row := textFieldsBackUptoRow, standIns := [], harness := (true, "d829ee542403924c56f6f255660ba0990b621169a61b5a81f53df08c5c52f11d"), looks := true }, kinds := [], alts := [], laidByText := true, laidKinds := [.data, .pinned], laidTests := true, laidLooks := .later }
def TextFieldsBackUptoCardSaid : Prop := Claim7.holds Tryd.pinned (.plain (OpenSpec.upto textFieldsBackSpec)) textFieldsBackUptoCard

/-- THE SECOND FORM's CARD OF 'pairinglaw5.TextNames'. -/
def textNamesUptoCard : Claim7 := { stood := { row := textNamesUptoRow, standIns := [], harness := (true, "d829ee542403924c56f6f255660ba0990b621169a61b5a81f53df08c5c52f11d"), looks := true }, kinds := [], alts := [], laidByText := true, laidKinds := [.data, .pinned], laidTests := true, laidLooks := .later }
def TextNamesUptoCardSaid : Prop := Claim7.holds Tryd.pinned (.plain (OpenSpec.upto textNamesSpec)) textNamesUptoCard

/-- THE SECOND FORM's CARD OF 'pairinglaw5.TextLines'. -/
def textLinesUptoCard : Claim7 := { stood := { row := textLinesUptoRow, standIns := [], harness := (true, "d829ee542403924c56f6f255660ba0990b621169a61b5a81f53df08c5c52f11d"), looks := true }, kinds := [], alts := [], laidByText := true, laidKinds := [.data, .pinned], laidTests := true, laidLooks := .later }
def TextLinesUptoCardSaid : Prop := Claim7.holds Tryd.pinned (.plain (OpenSpec.upto textLinesSpec)) textLinesUptoCard

/-- THE SECOND FORM's CARD OF 'pairinglaw5.TextLimits'. -/
def textLimitsUptoCard : Claim7 := { stood := { row := textLimitsUptoRow, standIns := [], harness := (true, "d829ee542403924c56f6f255660ba0990b621169a61b5a81f53df08c5c52f11d"), looks := true }, kinds := [], alts := [], laidByText := true, laidKinds := [.data, .pinned], laidTests := true, laidLooks := .later }
def TextLimitsUptoCardSaid : Prop := Claim7.holds Tryd.pinned (.plain (OpenSpec.upto textLimitsSpec)) textLimitsUptoCard

/-- THE SECOND FORM's CARD OF 'pairinglaw5.TextJoined'. -/
def textJoinedUptoCard : Claim7 := { stood := { row := textJoinedUptoRow, standIns := [], harness := (true, "d829ee542403924c56f6f255660ba0990b621169a61b5a81f53df08c5c52f11d"), looks := true }, kinds := [], alts := [], laidByText := true, laidKinds := [.data, .pinned], laidTests := true, laidLooks := .later }
def TextJoinedUptoCardSaid : Prop := Claim7.holds Tryd.pinned (.plain (OpenSpec.upto textJoinedSpec)) textJoinedUptoCard

/-- THE SECOND FORM's CARD OF 'pairinglaw5.TextNumbers'. -/
def textNumbersUptoCard : Claim7 := { stood := { row := textNumbersUptoRow, standIns := [], harness := (true, "d829ee542403924c56f6f255660ba0990b621169a61b5a81f53df08c5c52f11d"), looks := true }, kinds := [], alts := [], laidByText := true, laidKinds := [.data, .data, .data, .data, .sentinel, .sentinel, .pinned], laidTests := true, laidLooks := .later }
def TextNumbersUptoCardSaid : Prop := Claim7.holds Tryd.pinned (.plain (OpenSpec.upto textNumbersSpec)) textNumbersUptoCard
end Rows
end Go.Proofs.YtpgmodghkamihaaDoor
