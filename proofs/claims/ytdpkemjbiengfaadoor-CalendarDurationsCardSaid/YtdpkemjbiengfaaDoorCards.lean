/-
  DERIVED. GIVEN WITH THE SEED: THE CARDS: each row of YtdpkemjbiengfaaDoorRows.lean that lists a variable, with what it lists TIED to the program's text (the seventh form; the later family's looks); each row that meets fmt, with fmt's text TOLD by the authors' own Lean function (tested against real Go, not proved from fmt's source: count such statements apart). THE CARD IS WHAT COUNTS. Prove the row's statement (the work); the ties are given (YtdpkemjbiengfaaDoorTie.lean); close each card by the builder's one call (the guide's Derived/Test/ToyasCard.lean, 'card_holds'). Laid BY PROGRAM, IN A SANDBOX (cutbox-door.mjs). By AI agents, Wed Nov 11 2026. No macro, syntax, notation, axiom, sorry.
-/
import Derived.Test.YtdpkemjbiengfaaDoorRows
import GoSem.ClaimSeven
namespace Go.Proofs.YtdpkemjbiengfaaDoor
namespace Rows

/-- THE TIED CARD OF 'pairinglaw6.CalendarMinutes'. -/
def calendarMinutesCard : Claim7 := { stood := { row := calendarMinutesRow, standIns := [], harness := (true, "a6198e3834cedde0db14029cf0fff684f777a2d1e257790f8730a41850eb1a5b"), looks := false }, kinds := [], alts := [], laidByText := true, laidKinds := [.data], laidTests := true, laidLooks := .later }
def CalendarMinutesCardSaid : Prop := Claim7.holds Tryd.pinned (.plain (OpenSpec.ofChange calendarMinutesSpec)) calendarMinutesCard

/-- THE TIED CARD OF 'pairinglaw6.CalendarMonths'. -/
def calendarMonthsCard : Claim7 := { stood := { row := calendarMonthsRow, standIns := [], harness := (true, "a6198e3834cedde0db14029cf0fff684f777a2d1e257790f8730a41850eb1a5b"), looks := false }, kinds := [], alts := [], laidByText := true, laidKinds := [.data], laidTests := true, laidLooks := .later }
def CalendarMonthsCardSaid : Prop := Claim7.holds Tryd.pinned (.plain (OpenSpec.ofChange calendarMonthsSpec)) calendarMonthsCard

/-- THE TIED CARD OF 'pairinglaw6.CalendarDays'. -/
def calendarDaysCard : Claim7 := { stood := { row := calendarDaysRow, standIns := [], harness := (true, "a6198e3834cedde0db14029cf0fff684f777a2d1e257790f8730a41850eb1a5b"), looks := false }, kinds := [], alts := [], laidByText := true, laidKinds := [.data], laidTests := true, laidLooks := .later }
def CalendarDaysCardSaid : Prop := Claim7.holds Tryd.pinned (.plain (OpenSpec.ofChange calendarDaysSpec)) calendarDaysCard

/-- THE TIED CARD OF 'pairinglaw6.CalendarBack'. -/
def calendarBackCard : Claim7 := { stood := { row := calendarBackRow, standIns := [], harness := (true, "a6198e3834cedde0db14029cf0fff684f777a2d1e257790f8730a41850eb1a5b"), looks := false }, kinds := [], alts := [], laidByText := true, laidKinds := [.data], laidTests := true, laidLooks := .later }
def CalendarBackCardSaid : Prop := Claim7.holds Tryd.pinned (.plain (OpenSpec.ofChange calendarBackSpec)) calendarBackCard

/-- THE TIED CARD OF 'pairinglaw6.CalendarDates'. -/
def calendarDatesCard : Claim7 := { stood := { row := calendarDatesRow, standIns := [], harness := (true, "a6198e3834cedde0db14029cf0fff684f777a2d1e257790f8730a41850eb1a5b"), looks := false }, kinds := [], alts := [], laidByText := true, laidKinds := [.data, .data, .data, .data], laidTests := true, laidLooks := .later }
def CalendarDatesCardSaid : Prop := Claim7.holds Tryd.pinned (.plain (OpenSpec.ofChange calendarDatesSpec)) calendarDatesCard

/-- THE TIED CARD OF 'pairinglaw6.CalendarInstants'. -/
def calendarInstantsCard : Claim7 := { stood := { row := calendarInstantsRow, standIns := [], harness := (true, "a6198e3834cedde0db14029cf0fff684f777a2d1e257790f8730a41850eb1a5b"), looks := false }, kinds := [], alts := [], laidByText := true, laidKinds := [.data, .data, .data, .data], laidTests := true, laidLooks := .later }
def CalendarInstantsCardSaid : Prop := Claim7.holds Tryd.pinned (.plain (OpenSpec.ofChange calendarInstantsSpec)) calendarInstantsCard

/-- THE TIED CARD OF 'pairinglaw6.CalendarDurations'. -/
def calendarDurationsCard : Claim7 := { stood := { row := calendarDurationsRow, standIns := [], harness := (true, "a6198e3834cedde0db14029cf0fff684f777a2d1e257790f8730a41850eb1a5b"), looks := false }, kinds := [], alts := [], laidByText := true, laidKinds := [.data, .data, .data, .data], laidTests := true, laidLooks := .later }
def CalendarDurationsCardSaid : Prop := Claim7.holds Tryd.pinned (.plain (OpenSpec.ofChange calendarDurationsSpec)) calendarDurationsCard

/-- THE SECOND FORM's CARD OF 'pairinglaw6.CalendarMinutes'. -/
def calendarMinutesUptoCard : Claim7 := { stood := { row := calendarMinutesUptoRow, standIns := [], harness := (true, "a6198e3834cedde0db14029cf0fff684f777a2d1e257790f8730a41850eb1a5b"), looks := false }, kinds := [], alts := [], laidByText := true, laidKinds := [.data], laidTests := true, laidLooks := .later }
def CalendarMinutesUptoCardSaid : Prop := Claim7.holds Tryd.pinned (.plain (OpenSpec.upto calendarMinutesSpec)) calendarMinutesUptoCard

/-- THE SECOND FORM's CARD OF 'pairinglaw6.CalendarMonths'. -/
def calendarMonthsUptoCard : Claim7 := { stood := { row := calendarMonthsUptoRow, standIns := [], harness := (true, "a6198e3834cedde0db14029cf0fff684f777a2d1e257790f8730a41850eb1a5b"), looks := false }, kinds := [], alts := [], laidByText := true, laidKinds := [.data], laidTests := true, laidLooks := .later }
def CalendarMonthsUptoCardSaid : Prop := Claim7.holds Tryd.pinned (.plain (OpenSpec.upto calendarMonthsSpec)) calendarMonthsUptoCard

/-- THE SECOND FORM's CARD OF 'pairinglaw6.CalendarDays'. -/
def calendarDaysUptoCard : Claim7 := { stood := { row := calendarDaysUptoRow, standIns := [], harness := (true, "a6198e3834cedde0db14029cf0fff684f777a2d1e257790f8730a41850eb1a5b"), looks := false }, kinds := [], alts := [], laidByText := true, laidKinds := [.data], laidTests := true, laidLooks := .later }
def CalendarDaysUptoCardSaid : Prop := Claim7.holds Tryd.pinned (.plain (OpenSpec.upto calendarDaysSpec)) calendarDaysUptoCard

/-- THE SECOND FORM's CARD OF 'pairinglaw6.CalendarBack'. -/
def calendarBackUptoCard : Claim7 := { stood := { row := calendarBackUptoRow, standIns := [], harness := (true, "a6198e3834cedde0db14029cf0fff684f777a2d1e257790f8730a41850eb1a5b"), looks := false }, kinds := [], alts := [], laidByText := true, laidKinds := [.data], laidTests := true, laidLooks := .later }
def CalendarBackUptoCardSaid : Prop := Claim7.holds Tryd.pinned (.plain (OpenSpec.upto calendarBackSpec)) calendarBackUptoCard

/-- THE SECOND FORM's CARD OF 'pairinglaw6.CalendarDates'. -/
def calendarDatesUptoCard : Claim7 := { stood := { row := calendarDatesUptoRow, standIns := [], harness := (true, "a6198e3834cedde0db14029cf0fff684f777a2d1e257790f8730a41850eb1a5b"), looks := false }, kinds := [], alts := [], laidByText := true, laidKinds := [.data, .data, .data, .data], laidTests := true, laidLooks := .later }
def CalendarDatesUptoCardSaid : Prop := Claim7.holds Tryd.pinned (.plain (OpenSpec.upto calendarDatesSpec)) calendarDatesUptoCard

/-- THE SECOND FORM's CARD OF 'pairinglaw6.CalendarInstants'. -/
def calendarInstantsUptoCard : Claim7 := { stood := { row := calendarInstantsUptoRow, standIns := [], harness := (true, "a6198e3834cedde0db14029cf0fff684f777a2d1e257790f8730a41850eb1a5b"), looks := false }, kinds := [], alts := [], laidByText := true, laidKinds := [.data, .data, .data, .data], laidTests := true, laidLooks := .later }
def CalendarInstantsUptoCardSaid : Prop := Claim7.holds Tryd.pinned (.plain (OpenSpec.upto calendarInstantsSpec)) calendarInstantsUptoCard

/-- THE SECOND FORM's CARD OF 'pairinglaw6.CalendarDurations'. -/
def calendarDurationsUptoCard : Claim7 := { stood := { row := calendarDurationsUptoRow, standIns := [], harness := (true, "a6198e3834cedde0db14029cf0fff684f777a2d1e257790f8730a41850eb1a5b"), looks := false }, kinds := [], alts := [], laidByText := true, laidKinds := [.data, .data, .data, .data], laidTests := true, laidLooks := .later }
def CalendarDurationsUptoCardSaid : Prop := Claim7.holds Tryd.pinned (.plain (OpenSpec.upto calendarDurationsSpec)) calendarDurationsUptoCard
end Rows
end Go.Proofs.YtdpkemjbiengfaaDoor
