/-
  DERIVED. GIVEN WITH THE SEED: THE CARDS: each row of YtegnnghoiffmhaaDoorRows.lean that lists a variable, with what it lists TIED to the program's text (the seventh form; the later family's looks); each row that meets fmt, with fmt's text TOLD by the authors' own Lean function (tested against real Go, not proved from fmt's source: count such statements apart). THE CARD IS WHAT COUNTS. Prove the row's statement (the work); the ties are given (YtegnnghoiffmhaaDoorTie.lean); close each card by the builder's one call (the guide's Derived/Test/ToyasCard.lean, 'card_holds'). Laid BY PROGRAM, IN A SANDBOX (cutbox-door.mjs). By AI agents, Wed Nov 11 2026. No macro, syntax, notation, axiom, sorry.
-/
import Derived.Test.YtegnnghoiffmhaaDoorRows
import GoSem.ClaimSeven
namespace Go.Proofs.YtegnnghoiffmhaaDoor
namespace Rows

/-- THE TIED CARD OF 'pairinglaw1.IntegerDivision'. -/
def integerDivisionCard : Claim7 := { stood := { row := integerDivisionRow, standIns := [], harness := (true, "c7434b98355f01f04d371ead4a9013432931e4946c214915af989cc086f9f82d"), looks := false }, kinds := [], alts := [], laidByText := true, laidKinds := [.data, .data, .data], laidTests := true, laidLooks := .later }
def IntegerDivisionCardSaid : Prop := Claim7.holds Tryd.pinned (.plain (OpenSpec.ofChange integerDivisionSpec)) integerDivisionCard

/-- THE TIED CARD OF 'pairinglaw1.IntegerRing'. -/
def integerRingCard : Claim7 := { stood := { row := integerRingRow, standIns := [], harness := (true, "c7434b98355f01f04d371ead4a9013432931e4946c214915af989cc086f9f82d"), looks := false }, kinds := [], alts := [], laidByText := true, laidKinds := [.data, .data, .data], laidTests := true, laidLooks := .later }
def IntegerRingCardSaid : Prop := Claim7.holds Tryd.pinned (.plain (OpenSpec.ofChange integerRingSpec)) integerRingCard

/-- THE TIED CARD OF 'pairinglaw1.IntegerInt64'. -/
def integerInt64Card : Claim7 := { stood := { row := integerInt64Row, standIns := [], harness := (true, "c7434b98355f01f04d371ead4a9013432931e4946c214915af989cc086f9f82d"), looks := false }, kinds := [], alts := [], laidByText := true, laidKinds := [.data, .data, .data], laidTests := true, laidLooks := .later }
def IntegerInt64CardSaid : Prop := Claim7.holds Tryd.pinned (.plain (OpenSpec.ofChange integerInt64Spec)) integerInt64Card

/-- THE TIED CARD OF 'pairinglaw1.IntegerEuclid'. -/
def integerEuclidCard : Claim7 := { stood := { row := integerEuclidRow, standIns := [], harness := (true, "c7434b98355f01f04d371ead4a9013432931e4946c214915af989cc086f9f82d"), looks := false }, kinds := [], alts := [], laidByText := true, laidKinds := [.data, .data, .data], laidTests := true, laidLooks := .later }
def IntegerEuclidCardSaid : Prop := Claim7.holds Tryd.pinned (.plain (OpenSpec.ofChange integerEuclidSpec)) integerEuclidCard

/-- THE TIED CARD OF 'pairinglaw1.IntegerArithmetic'. -/
def integerArithmeticCard : Claim7 := { stood := { row := integerArithmeticRow, standIns := [], harness := (true, "c7434b98355f01f04d371ead4a9013432931e4946c214915af989cc086f9f82d"), looks := false }, kinds := [], alts := [], laidByText := true, laidKinds := [.data, .data, .data], laidTests := true, laidLooks := .later }
def IntegerArithmeticCardSaid : Prop := Claim7.holds Tryd.pinned (.plain (OpenSpec.ofChange integerArithmeticSpec)) integerArithmeticCard

/-- THE TIED CARD OF 'pairinglaw1.IntegerTexts'. -/
def integerTextsCard : Claim7 := { stood := { row := integerTextsRow, standIns := [], harness := (true, "c7434b98355f01f04d371ead4a9013432931e4946c214915af989cc086f9f82d"), looks := false }, kinds := [], alts := [], laidByText := true, laidKinds := [.data, .data, .data], laidTests := true, laidLooks := .later }
def IntegerTextsCardSaid : Prop := Claim7.holds Tryd.pinned (.plain (OpenSpec.ofChange integerTextsSpec)) integerTextsCard

/-- THE TIED CARD OF 'pairinglaw1.IntegerDivisors'. -/
def integerDivisorsCard : Claim7 := { stood := { row := integerDivisorsRow, standIns := [], harness := (true, "c7434b98355f01f04d371ead4a9013432931e4946c214915af989cc086f9f82d"), looks := false }, kinds := [], alts := [], laidByText := true, laidKinds := [.data, .data, .data], laidTests := true, laidLooks := .later }
def IntegerDivisorsCardSaid : Prop := Claim7.holds Tryd.pinned (.plain (OpenSpec.ofChange integerDivisorsSpec)) integerDivisorsCard

/-- THE TIED CARD OF 'pairinglaw1.IntegerBezout'. -/
def integerBezoutCard : Claim7 := { stood := { row := integerBezoutRow, standIns := [], harness := (true, "c7434b98355f01f04d371ead4a9013432931e4946c214915af989cc086f9f82d"), looks := false }, kinds := [], alts := [], laidByText := true, laidKinds := [.data, .data, .data], laidTests := true, laidLooks := .later }
def IntegerBezoutCardSaid : Prop := Claim7.holds Tryd.pinned (.plain (OpenSpec.ofChange integerBezoutSpec)) integerBezoutCard

/-- THE TIED CARD OF 'pairinglaw1.IntegerPowers'. -/
def integerPowersCard : Claim7 := { stood := { row := integerPowersRow, standIns := [], harness := (true, "c7434b98355f01f04d371ead4a9013432931e4946c214915af989cc086f9f82d"), looks := false }, kinds := [], alts := [], laidByText := true, laidKinds := [.data, .data, .data], laidTests := true, laidLooks := .later }
def IntegerPowersCardSaid : Prop := Claim7.holds Tryd.pinned (.plain (OpenSpec.ofChange integerPowersSpec)) integerPowersCard

/-- THE SECOND FORM's CARD OF 'pairinglaw1.IntegerDivision'. -/
def integerDivisionUptoCard : Claim7 := { stood := { row := integerDivisionUptoRow, standIns := [], harness := (true, "c7434b98355f01f04d371ead4a9013432931e4946c214915af989cc086f9f82d"), looks := false }, kinds := [], alts := [], laidByText := true, laidKinds := [.data, .data, .data], laidTests := true, laidLooks := .later }
def IntegerDivisionUptoCardSaid : Prop := Claim7.holds Tryd.pinned (.plain (OpenSpec.upto integerDivisionSpec)) integerDivisionUptoCard

/-- THE SECOND FORM's CARD OF 'pairinglaw1.IntegerRing'. -/
def integerRingUptoCard : Claim7 := { stood := { row := integerRingUptoRow, standIns := [], harness := (true, "c7434b98355f01f04d371ead4a9013432931e4946c214915af989cc086f9f82d"), looks := false }, kinds := [], alts := [], laidByText := true, laidKinds := [.data, .data, .data], laidTests := true, laidLooks := .later }
def IntegerRingUptoCardSaid : Prop := Claim7.holds Tryd.pinned (.plain (OpenSpec.upto integerRingSpec)) integerRingUptoCard

/-- THE SECOND FORM's CARD OF 'pairinglaw1.IntegerInt64'. -/
def integerInt64UptoCard : Claim7 := { stood := { row := integerInt64UptoRow, standIns := [], harness := (true, "c7434b98355f01f04d371ead4a9013432931e4946c214915af989cc086f9f82d"), looks := false }, kinds := [], alts := [], laidByText := true, laidKinds := [.data, .data, .data], laidTests := true, laidLooks := .later }
def IntegerInt64UptoCardSaid : Prop := Claim7.holds Tryd.pinned (.plain (OpenSpec.upto integerInt64Spec)) integerInt64UptoCard

/-- THE SECOND FORM's CARD OF 'pairinglaw1.IntegerEuclid'. -/
def integerEuclidUptoCard : Claim7 := { stood := { row := integerEuclidUptoRow, standIns := [], harness := (true, "c7434b98355f01f04d371ead4a9013432931e4946c214915af989cc086f9f82d"), looks := false }, kinds := [], alts := [], laidByText := true, laidKinds := [.data, .data, .data], laidTests := true, laidLooks := .later }
def IntegerEuclidUptoCardSaid : Prop := Claim7.holds Tryd.pinned (.plain (OpenSpec.upto integerEuclidSpec)) integerEuclidUptoCard

/-- THE SECOND FORM's CARD OF 'pairinglaw1.IntegerArithmetic'. -/
def integerArithmeticUptoCard : Claim7 := { stood := { row := integerArithmeticUptoRow, standIns := [], harness := (true, "c7434b98355f01f04d371ead4a9013432931e4946c214915af989cc086f9f82d"), looks := false }, kinds := [], alts := [], laidByText := true, laidKinds := [.data, .data, .data], laidTests := true, laidLooks := .later }
def IntegerArithmeticUptoCardSaid : Prop := Claim7.holds Tryd.pinned (.plain (OpenSpec.upto integerArithmeticSpec)) integerArithmeticUptoCard

/-- THE SECOND FORM's CARD OF 'pairinglaw1.IntegerTexts'. -/
def integerTextsUptoCard : Claim7 := { stood := { row := integerTextsUptoRow, standIns := [], harness := (true, "c7434b98355f01f04d371ead4a9013432931e4946c214915af989cc086f9f82d"), looks := false }, kinds := [], alts := [], laidByText := true, laidKinds := [.data, .data, .data], laidTests := true, laidLooks := .later }
def IntegerTextsUptoCardSaid : Prop := Claim7.holds Tryd.pinned (.plain (OpenSpec.upto integerTextsSpec)) integerTextsUptoCard

/-- THE SECOND FORM's CARD OF 'pairinglaw1.IntegerDivisors'. -/
def integerDivisorsUptoCard : Claim7 := { stood := { row := integerDivisorsUptoRow, standIns := [], harness := (true, "c7434b98355f01f04d371ead4a9013432931e4946c214915af989cc086f9f82d"), looks := false }, kinds := [], alts := [], laidByText := true, laidKinds := [.data, .data, .data], laidTests := true, laidLooks := .later }
def IntegerDivisorsUptoCardSaid : Prop := Claim7.holds Tryd.pinned (.plain (OpenSpec.upto integerDivisorsSpec)) integerDivisorsUptoCard

/-- THE SECOND FORM's CARD OF 'pairinglaw1.IntegerBezout'. -/
def integerBezoutUptoCard : Claim7 := { stood := { row := integerBezoutUptoRow, standIns := [], harness := (true, "c7434b98355f01f04d371ead4a9013432931e4946c214915af989cc086f9f82d"), looks := false }, kinds := [], alts := [], laidByText := true, laidKinds := [.data, .data, .data], laidTests := true, laidLooks := .later }
def IntegerBezoutUptoCardSaid : Prop := Claim7.holds Tryd.pinned (.plain (OpenSpec.upto integerBezoutSpec)) integerBezoutUptoCard

/-- THE SECOND FORM's CARD OF 'pairinglaw1.IntegerPowers'. -/
def integerPowersUptoCard : Claim7 := { stood := { row := integerPowersUptoRow, standIns := [], harness := (true, "c7434b98355f01f04d371ead4a9013432931e4946c214915af989cc086f9f82d"), looks := false }, kinds := [], alts := [], laidByText := true, laidKinds := [.data, .data, .data], laidTests := true, laidLooks := .later }
def IntegerPowersUptoCardSaid : Prop := Claim7.holds Tryd.pinned (.plain (OpenSpec.upto integerPowersSpec)) integerPowersUptoCard
end Rows
end Go.Proofs.YtegnnghoiffmhaaDoor
