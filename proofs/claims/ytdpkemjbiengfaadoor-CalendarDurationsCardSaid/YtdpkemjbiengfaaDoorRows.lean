/-
  NARROWER THAN 'FOR EVERY INPUT', by the rows' own cells (each row's printed sentence says how): CalendarMinutes: laid · CalendarMonths: laid · CalendarDays: laid · CalendarBack: laid · CalendarDates: laid · CalendarInstants: laid · CalendarDurations: laid.
  DERIVED. THE GIVEN ROWS OF THIS SEAT. 7 by the template 'for every input the law returns true; each argument reads behind the call as it read before'; 0 by the template 'total and deterministic' (their statements: YtdpkemjbiengfaaDoorTotals.lean).
  GIVEN WITH THE SEED: the statements are not yours to turn. If you find one false, say at which input.
  Laid BY PROGRAM, IN A SANDBOX (cutbox-rows.mjs): the forced cells as the released guide's own fill.sh prints them over the translation 571f87ebd1575382… (all of the seat's roots in one cut). By AI agents, Wed Nov 11 2026. No macro, syntax, notation, axiom, sorry.
-/
import Derived.Test.YtdpkemjbiengfaaDoorChecked
import GoSem.Claim
import GoSem.ClaimJoined
import GoSem.ClaimMapViews
import Derived.JoinedTies
import Derived.KernelRfl
namespace Go.Proofs.YtdpkemjbiengfaaDoor
/- THE CELL 'sum', in the pinned program and in every row, IS THE sha256 OF THE DUMP (.gsa) THAT YtdpkemjbiengfaaDoorProg.lean LOADS. Nothing in Lean hashes anything: it is a label: what it is worth is what the hold of that sum in a sandbox is worth. -/
noncomputable def Tryd.pinned : Pinned := { name := "ytdpkemjbiengfaadoor", sum := "571f87ebd157538249a4102becb1225c848211d0ea698bee1d7b73323f0e8f7e", checked := Tryd.checked }
namespace Rows
def none {H : Type} : Left H := { results := [], args := [] }

/- WHAT THE LISTED PACKAGE-LEVEL VARIABLES READ AS WHEN THE CALL BEGINS. Each datum BY PROGRAM (the guide's laid-datum.mjs) off the statement by which the dump's own 'gosem.cut.vars' lays the variable. In a bare row this is a premise. The card (YtdpkemjbiengfaaDoorCards.lean) ties it to the program's text. -/
def laid_pairing_calendar_monthDays {H : Type} : DataW H := .agg [.lit (.int .i64 31), .lit (.int .i64 28), .lit (.int .i64 31), .lit (.int .i64 30), .lit (.int .i64 31), .lit (.int .i64 30), .lit (.int .i64 31), .lit (.int .i64 31), .lit (.int .i64 30), .lit (.int .i64 31), .lit (.int .i64 30), .lit (.int .i64 31)]
def laid_math_bits_deBruijn32tab {H : Type} : DataW H := .agg [.lit (.int .u8 0), .lit (.int .u8 1), .lit (.int .u8 28), .lit (.int .u8 2), .lit (.int .u8 29), .lit (.int .u8 14), .lit (.int .u8 24), .lit (.int .u8 3), .lit (.int .u8 30), .lit (.int .u8 22), .lit (.int .u8 20), .lit (.int .u8 15), .lit (.int .u8 25), .lit (.int .u8 17), .lit (.int .u8 4), .lit (.int .u8 8), .lit (.int .u8 31), .lit (.int .u8 27), .lit (.int .u8 13), .lit (.int .u8 23), .lit (.int .u8 21), .lit (.int .u8 19), .lit (.int .u8 16), .lit (.int .u8 7), .lit (.int .u8 26), .lit (.int .u8 12), .lit (.int .u8 18), .lit (.int .u8 6), .lit (.int .u8 11), .lit (.int .u8 5), .lit (.int .u8 10), .lit (.int .u8 9)]
def laid_math_bits_deBruijn64tab {H : Type} : DataW H := .agg [.lit (.int .u8 0), .lit (.int .u8 1), .lit (.int .u8 56), .lit (.int .u8 2), .lit (.int .u8 57), .lit (.int .u8 49), .lit (.int .u8 28), .lit (.int .u8 3), .lit (.int .u8 61), .lit (.int .u8 58), .lit (.int .u8 42), .lit (.int .u8 50), .lit (.int .u8 38), .lit (.int .u8 29), .lit (.int .u8 17), .lit (.int .u8 4), .lit (.int .u8 62), .lit (.int .u8 47), .lit (.int .u8 59), .lit (.int .u8 36), .lit (.int .u8 45), .lit (.int .u8 43), .lit (.int .u8 51), .lit (.int .u8 22), .lit (.int .u8 53), .lit (.int .u8 39), .lit (.int .u8 33), .lit (.int .u8 30), .lit (.int .u8 24), .lit (.int .u8 18), .lit (.int .u8 12), .lit (.int .u8 5), .lit (.int .u8 63), .lit (.int .u8 55), .lit (.int .u8 48), .lit (.int .u8 27), .lit (.int .u8 60), .lit (.int .u8 41), .lit (.int .u8 37), .lit (.int .u8 16), .lit (.int .u8 46), .lit (.int .u8 35), .lit (.int .u8 44), .lit (.int .u8 21), .lit (.int .u8 52), .lit (.int .u8 32), .lit (.int .u8 23), .lit (.int .u8 11), .lit (.int .u8 54), .lit (.int .u8 26), .lit (.int .u8 40), .lit (.int .u8 15), .lit (.int .u8 34), .lit (.int .u8 20), .lit (.int .u8 31), .lit (.int .u8 10), .lit (.int .u8 25), .lit (.int .u8 14), .lit (.int .u8 19), .lit (.int .u8 9), .lit (.int .u8 13), .lit (.int .u8 8), .lit (.int .u8 7), .lit (.int .u8 6)]
def laid_internal_strconv_uint64pow10 {H : Type} : DataW H := .agg [.lit (.int .u64 1), .lit (.int .u64 10), .lit (.int .u64 100), .lit (.int .u64 1000), .lit (.int .u64 10000), .lit (.int .u64 100000), .lit (.int .u64 1000000), .lit (.int .u64 10000000), .lit (.int .u64 100000000), .lit (.int .u64 1000000000), .lit (.int .u64 10000000000), .lit (.int .u64 100000000000), .lit (.int .u64 1000000000000), .lit (.int .u64 10000000000000), .lit (.int .u64 100000000000000), .lit (.int .u64 1000000000000000), .lit (.int .u64 10000000000000000), .lit (.int .u64 100000000000000000), .lit (.int .u64 1000000000000000000), .lit (.int .u64 10000000000000000000)]

/-- 'pairinglaw6.CalendarMinutes': WHATEVER THE INPUT: true; the input reads as it did. -/
def calendarMinutesSpec : ChangeSpec := { name := "calendarMinutes", fn := fun _ => fun
  | [d] => { results := [.lit (.bool true)], args := [d] }
  | _ => none }
def calendarMinutesRow : OpenClaim := { program := "ytdpkemjbiengfaadoor", sum := "571f87ebd157538249a4102becb1225c848211d0ea698bee1d7b73323f0e8f7e", func := "pairing/pairinglaw6.CalendarMinutes", spec := "calendarMinutes", named := ["pairing/calendar.monthDays"], apart := false, laid := [("pairing/calendar.monthDays", laid_pairing_calendar_monthDays)] }
def CalendarMinutesSaid : Prop := calendarMinutesRow.holds Tryd.pinned (OpenSpec.ofChange calendarMinutesSpec)

/-- ITS FALSE NEIGHBOUR: 'it returns false'. Refute it at one input. -/
def calendarMinutesWrong : ChangeSpec := { name := "calendarMinutes", fn := fun _ => fun
  | [d] => { results := [.lit (.bool false)], args := [d] }
  | _ => none }
def CalendarMinutesWrongFalsely : Prop := calendarMinutesRow.holds Tryd.pinned (OpenSpec.ofChange calendarMinutesWrong)

/-- 'pairinglaw6.CalendarMonths': WHATEVER THE INPUT: true; the input reads as it did. -/
def calendarMonthsSpec : ChangeSpec := { name := "calendarMonths", fn := fun _ => fun
  | [d1, d2] => { results := [.lit (.bool true)], args := [d1, d2] }
  | _ => none }
def calendarMonthsRow : OpenClaim := { program := "ytdpkemjbiengfaadoor", sum := "571f87ebd157538249a4102becb1225c848211d0ea698bee1d7b73323f0e8f7e", func := "pairing/pairinglaw6.CalendarMonths", spec := "calendarMonths", named := ["pairing/calendar.monthDays"], apart := false, laid := [("pairing/calendar.monthDays", laid_pairing_calendar_monthDays)] }
def CalendarMonthsSaid : Prop := calendarMonthsRow.holds Tryd.pinned (OpenSpec.ofChange calendarMonthsSpec)

/-- ITS FALSE NEIGHBOUR: 'it returns false'. Refute it at one input. -/
def calendarMonthsWrong : ChangeSpec := { name := "calendarMonths", fn := fun _ => fun
  | [d1, d2] => { results := [.lit (.bool false)], args := [d1, d2] }
  | _ => none }
def CalendarMonthsWrongFalsely : Prop := calendarMonthsRow.holds Tryd.pinned (OpenSpec.ofChange calendarMonthsWrong)

/-- 'pairinglaw6.CalendarDays': WHATEVER THE INPUT: true; the input reads as it did. -/
def calendarDaysSpec : ChangeSpec := { name := "calendarDays", fn := fun _ => fun
  | [d1, d2] => { results := [.lit (.bool true)], args := [d1, d2] }
  | _ => none }
def calendarDaysRow : OpenClaim := { program := "ytdpkemjbiengfaadoor", sum := "571f87ebd157538249a4102becb1225c848211d0ea698bee1d7b73323f0e8f7e", func := "pairing/pairinglaw6.CalendarDays", spec := "calendarDays", named := ["pairing/calendar.monthDays"], apart := false, laid := [("pairing/calendar.monthDays", laid_pairing_calendar_monthDays)] }
def CalendarDaysSaid : Prop := calendarDaysRow.holds Tryd.pinned (OpenSpec.ofChange calendarDaysSpec)

/-- ITS FALSE NEIGHBOUR: 'it returns false'. Refute it at one input. -/
def calendarDaysWrong : ChangeSpec := { name := "calendarDays", fn := fun _ => fun
  | [d1, d2] => { results := [.lit (.bool false)], args := [d1, d2] }
  | _ => none }
def CalendarDaysWrongFalsely : Prop := calendarDaysRow.holds Tryd.pinned (OpenSpec.ofChange calendarDaysWrong)

/-- 'pairinglaw6.CalendarBack': WHATEVER THE INPUT: true; the input reads as it did. -/
def calendarBackSpec : ChangeSpec := { name := "calendarBack", fn := fun _ => fun
  | [d] => { results := [.lit (.bool true)], args := [d] }
  | _ => none }
def calendarBackRow : OpenClaim := { program := "ytdpkemjbiengfaadoor", sum := "571f87ebd157538249a4102becb1225c848211d0ea698bee1d7b73323f0e8f7e", func := "pairing/pairinglaw6.CalendarBack", spec := "calendarBack", named := ["pairing/calendar.monthDays"], apart := false, laid := [("pairing/calendar.monthDays", laid_pairing_calendar_monthDays)] }
def CalendarBackSaid : Prop := calendarBackRow.holds Tryd.pinned (OpenSpec.ofChange calendarBackSpec)

/-- ITS FALSE NEIGHBOUR: 'it returns false'. Refute it at one input. -/
def calendarBackWrong : ChangeSpec := { name := "calendarBack", fn := fun _ => fun
  | [d] => { results := [.lit (.bool false)], args := [d] }
  | _ => none }
def CalendarBackWrongFalsely : Prop := calendarBackRow.holds Tryd.pinned (OpenSpec.ofChange calendarBackWrong)

/-- 'pairinglaw6.CalendarDates': WHATEVER THE INPUT: true; the input reads as it did. -/
def calendarDatesSpec : ChangeSpec := { name := "calendarDates", fn := fun _ => fun
  | [d1, d2, d3, d4] => { results := [.lit (.bool true)], args := [d1, d2, d3, d4] }
  | _ => none }
def calendarDatesRow : OpenClaim := { program := "ytdpkemjbiengfaadoor", sum := "571f87ebd157538249a4102becb1225c848211d0ea698bee1d7b73323f0e8f7e", func := "pairing/pairinglaw6.CalendarDates", spec := "calendarDates", named := ["pairing/calendar.monthDays", "internal/strconv.uint64pow10", "math/bits.deBruijn32tab", "math/bits.deBruijn64tab"], apart := false, laid := [("math/bits.deBruijn32tab", laid_math_bits_deBruijn32tab), ("math/bits.deBruijn64tab", laid_math_bits_deBruijn64tab), ("internal/strconv.uint64pow10", laid_internal_strconv_uint64pow10), ("pairing/calendar.monthDays", laid_pairing_calendar_monthDays)] }
def CalendarDatesSaid : Prop := calendarDatesRow.holds Tryd.pinned (OpenSpec.ofChange calendarDatesSpec)

/-- ITS FALSE NEIGHBOUR: 'it returns false'. Refute it at one input. -/
def calendarDatesWrong : ChangeSpec := { name := "calendarDates", fn := fun _ => fun
  | [d1, d2, d3, d4] => { results := [.lit (.bool false)], args := [d1, d2, d3, d4] }
  | _ => none }
def CalendarDatesWrongFalsely : Prop := calendarDatesRow.holds Tryd.pinned (OpenSpec.ofChange calendarDatesWrong)

/-- 'pairinglaw6.CalendarInstants': WHATEVER THE INPUT: true; the input reads as it did. -/
def calendarInstantsSpec : ChangeSpec := { name := "calendarInstants", fn := fun _ => fun
  | [d1, d2, d3] => { results := [.lit (.bool true)], args := [d1, d2, d3] }
  | _ => none }
def calendarInstantsRow : OpenClaim := { program := "ytdpkemjbiengfaadoor", sum := "571f87ebd157538249a4102becb1225c848211d0ea698bee1d7b73323f0e8f7e", func := "pairing/pairinglaw6.CalendarInstants", spec := "calendarInstants", named := ["pairing/calendar.monthDays", "internal/strconv.uint64pow10", "math/bits.deBruijn32tab", "math/bits.deBruijn64tab"], apart := false, laid := [("math/bits.deBruijn32tab", laid_math_bits_deBruijn32tab), ("math/bits.deBruijn64tab", laid_math_bits_deBruijn64tab), ("internal/strconv.uint64pow10", laid_internal_strconv_uint64pow10), ("pairing/calendar.monthDays", laid_pairing_calendar_monthDays)] }
def CalendarInstantsSaid : Prop := calendarInstantsRow.holds Tryd.pinned (OpenSpec.ofChange calendarInstantsSpec)

/-- ITS FALSE NEIGHBOUR: 'it returns false'. Refute it at one input. -/
def calendarInstantsWrong : ChangeSpec := { name := "calendarInstants", fn := fun _ => fun
  | [d1, d2, d3] => { results := [.lit (.bool false)], args := [d1, d2, d3] }
  | _ => none }
def CalendarInstantsWrongFalsely : Prop := calendarInstantsRow.holds Tryd.pinned (OpenSpec.ofChange calendarInstantsWrong)

/-- 'pairinglaw6.CalendarDurations': WHATEVER THE INPUT: true; the input reads as it did. -/
def calendarDurationsSpec : ChangeSpec := { name := "calendarDurations", fn := fun _ => fun
  | [d1, d2] => { results := [.lit (.bool true)], args := [d1, d2] }
  | _ => none }
def calendarDurationsRow : OpenClaim := { program := "ytdpkemjbiengfaadoor", sum := "571f87ebd157538249a4102becb1225c848211d0ea698bee1d7b73323f0e8f7e", func := "pairing/pairinglaw6.CalendarDurations", spec := "calendarDurations", inPlace := ["internal/bytealg.IndexByteString", "internal/bytealg.IndexString"], named := ["internal/bytealg.MaxLen", "internal/strconv.uint64pow10", "math/bits.deBruijn32tab", "math/bits.deBruijn64tab", "pairing/calendar.monthDays"], apart := false, laid := [("math/bits.deBruijn32tab", laid_math_bits_deBruijn32tab), ("math/bits.deBruijn64tab", laid_math_bits_deBruijn64tab), ("internal/strconv.uint64pow10", laid_internal_strconv_uint64pow10), ("pairing/calendar.monthDays", laid_pairing_calendar_monthDays)] }
def CalendarDurationsSaid : Prop := calendarDurationsRow.holds Tryd.pinned (OpenSpec.ofChange calendarDurationsSpec)

/-- ITS FALSE NEIGHBOUR: 'it returns false'. Refute it at one input. -/
def calendarDurationsWrong : ChangeSpec := { name := "calendarDurations", fn := fun _ => fun
  | [d1, d2] => { results := [.lit (.bool false)], args := [d1, d2] }
  | _ => none }
def CalendarDurationsWrongFalsely : Prop := calendarDurationsRow.holds Tryd.pinned (OpenSpec.ofChange calendarDurationsWrong)

/- THE SECOND FORM. 'bulk': how many values and letters a reading holds, each counted each time it is reached (what is shared counts as often as it is met; a slice's spare places count too). A statement '..UptoSaid' is the law's where the arguments, and the package variables that the reading takes, are together of bulk at most 1048576: NARROWER than '..Said'. Prove '..Said' where nothing that the law and all that it calls make is longer than what came in: it says more and counts as full. Else prove '..UptoSaid'. A law counts once. -/
mutual
def uptoBulk {H : Type} : DataW H → Nat
  | .lit (.string bytes) => bytes.length + 1
  | .lit _ => 1
  | .nil => 1
  | .ptr d => uptoBulk d + 1
  | .slice elems spare => uptoBulkAll elems + uptoBulkAll spare + 1
  | .agg parts => uptoBulkAll parts + 1
  | .iface _ d => uptoBulk d + 1
  | .map entries => uptoBulkEntries entries + 1
  | .held _ => 1
def uptoBulkAll {H : Type} : List (DataW H) → Nat
  | [] => 0
  | d :: r => uptoBulk d + uptoBulkAll r
def uptoBulkEntries {H : Type} : List (Lit × DataW H) → Nat
  | [] => 0
  | x :: r => uptoBulkEntry x + uptoBulkEntries r
def uptoBulkEntry {H : Type} : Lit × DataW H → Nat
  | (.string bytes, d) => bytes.length + uptoBulk d + 1
  | (_, d) => uptoBulk d + 1
 end
def uptoSmall : (H : Type) → List (DataW H) → Bool := fun _ ds => decide (uptoBulkAll ds ≤ 1048576)
def OpenSpec.upto (s : _root_.Go.ChangeSpec) : _root_.Go.OpenSpec := { _root_.Go.OpenSpec.ofChange s with cond := some uptoSmall }

/-- 'pairinglaw6.CalendarMinutes', WHERE WHAT IT READS IS OF BULK AT MOST 1048576: true; the input reads as it did. -/
def calendarMinutesUptoRow : OpenClaim := { program := "ytdpkemjbiengfaadoor", sum := "571f87ebd157538249a4102becb1225c848211d0ea698bee1d7b73323f0e8f7e", func := "pairing/pairinglaw6.CalendarMinutes", spec := "calendarMinutes", named := ["pairing/calendar.monthDays"], apart := false, laid := [("pairing/calendar.monthDays", laid_pairing_calendar_monthDays)], narrowed := true }
def CalendarMinutesUptoSaid : Prop := calendarMinutesUptoRow.holds Tryd.pinned (OpenSpec.upto calendarMinutesSpec)

/-- 'pairinglaw6.CalendarMonths', WHERE WHAT IT READS IS OF BULK AT MOST 1048576: true; the input reads as it did. -/
def calendarMonthsUptoRow : OpenClaim := { program := "ytdpkemjbiengfaadoor", sum := "571f87ebd157538249a4102becb1225c848211d0ea698bee1d7b73323f0e8f7e", func := "pairing/pairinglaw6.CalendarMonths", spec := "calendarMonths", named := ["pairing/calendar.monthDays"], apart := false, laid := [("pairing/calendar.monthDays", laid_pairing_calendar_monthDays)], narrowed := true }
def CalendarMonthsUptoSaid : Prop := calendarMonthsUptoRow.holds Tryd.pinned (OpenSpec.upto calendarMonthsSpec)

/-- 'pairinglaw6.CalendarDays', WHERE WHAT IT READS IS OF BULK AT MOST 1048576: true; the input reads as it did. -/
def calendarDaysUptoRow : OpenClaim := { program := "ytdpkemjbiengfaadoor", sum := "571f87ebd157538249a4102becb1225c848211d0ea698bee1d7b73323f0e8f7e", func := "pairing/pairinglaw6.CalendarDays", spec := "calendarDays", named := ["pairing/calendar.monthDays"], apart := false, laid := [("pairing/calendar.monthDays", laid_pairing_calendar_monthDays)], narrowed := true }
def CalendarDaysUptoSaid : Prop := calendarDaysUptoRow.holds Tryd.pinned (OpenSpec.upto calendarDaysSpec)

/-- 'pairinglaw6.CalendarBack', WHERE WHAT IT READS IS OF BULK AT MOST 1048576: true; the input reads as it did. -/
def calendarBackUptoRow : OpenClaim := { program := "ytdpkemjbiengfaadoor", sum := "571f87ebd157538249a4102becb1225c848211d0ea698bee1d7b73323f0e8f7e", func := "pairing/pairinglaw6.CalendarBack", spec := "calendarBack", named := ["pairing/calendar.monthDays"], apart := false, laid := [("pairing/calendar.monthDays", laid_pairing_calendar_monthDays)], narrowed := true }
def CalendarBackUptoSaid : Prop := calendarBackUptoRow.holds Tryd.pinned (OpenSpec.upto calendarBackSpec)

/-- 'pairinglaw6.CalendarDates', WHERE WHAT IT READS IS OF BULK AT MOST 1048576: true; the input reads as it did. -/
def calendarDatesUptoRow : OpenClaim := { program := "ytdpkemjbiengfaadoor", sum := "571f87ebd157538249a4102becb1225c848211d0ea698bee1d7b73323f0e8f7e", func := "pairing/pairinglaw6.CalendarDates", spec := "calendarDates", named := ["pairing/calendar.monthDays", "internal/strconv.uint64pow10", "math/bits.deBruijn32tab", "math/bits.deBruijn64tab"], apart := false, laid := [("math/bits.deBruijn32tab", laid_math_bits_deBruijn32tab), ("math/bits.deBruijn64tab", laid_math_bits_deBruijn64tab), ("internal/strconv.uint64pow10", laid_internal_strconv_uint64pow10), ("pairing/calendar.monthDays", laid_pairing_calendar_monthDays)], narrowed := true }
def CalendarDatesUptoSaid : Prop := calendarDatesUptoRow.holds Tryd.pinned (OpenSpec.upto calendarDatesSpec)

/-- 'pairinglaw6.CalendarInstants', WHERE WHAT IT READS IS OF BULK AT MOST 1048576: true; the input reads as it did. -/
def calendarInstantsUptoRow : OpenClaim := { program := "ytdpkemjbiengfaadoor", sum := "571f87ebd157538249a4102becb1225c848211d0ea698bee1d7b73323f0e8f7e", func := "pairing/pairinglaw6.CalendarInstants", spec := "calendarInstants", named := ["pairing/calendar.monthDays", "internal/strconv.uint64pow10", "math/bits.deBruijn32tab", "math/bits.deBruijn64tab"], apart := false, laid := [("math/bits.deBruijn32tab", laid_math_bits_deBruijn32tab), ("math/bits.deBruijn64tab", laid_math_bits_deBruijn64tab), ("internal/strconv.uint64pow10", laid_internal_strconv_uint64pow10), ("pairing/calendar.monthDays", laid_pairing_calendar_monthDays)], narrowed := true }
def CalendarInstantsUptoSaid : Prop := calendarInstantsUptoRow.holds Tryd.pinned (OpenSpec.upto calendarInstantsSpec)

/-- 'pairinglaw6.CalendarDurations', WHERE WHAT IT READS IS OF BULK AT MOST 1048576: true; the input reads as it did. -/
def calendarDurationsUptoRow : OpenClaim := { program := "ytdpkemjbiengfaadoor", sum := "571f87ebd157538249a4102becb1225c848211d0ea698bee1d7b73323f0e8f7e", func := "pairing/pairinglaw6.CalendarDurations", spec := "calendarDurations", inPlace := ["internal/bytealg.IndexByteString", "internal/bytealg.IndexString"], named := ["internal/bytealg.MaxLen", "internal/strconv.uint64pow10", "math/bits.deBruijn32tab", "math/bits.deBruijn64tab", "pairing/calendar.monthDays"], apart := false, laid := [("math/bits.deBruijn32tab", laid_math_bits_deBruijn32tab), ("math/bits.deBruijn64tab", laid_math_bits_deBruijn64tab), ("internal/strconv.uint64pow10", laid_internal_strconv_uint64pow10), ("pairing/calendar.monthDays", laid_pairing_calendar_monthDays)], narrowed := true }
def CalendarDurationsUptoSaid : Prop := calendarDurationsUptoRow.holds Tryd.pinned (OpenSpec.upto calendarDurationsSpec)

end Rows
end Go.Proofs.YtdpkemjbiengfaaDoor
