/-
  DERIVED. GIVEN WITH THE SEED: THE CARDS: each row of YtpbkdbicdimfhaaDoorRows.lean that lists a variable, with what it lists TIED to the program's text (the seventh form; the later family's looks); each row that meets fmt, with fmt's text TOLD by the authors' own Lean function (tested against real Go, not proved from fmt's source: count such statements apart). THE CARD IS WHAT COUNTS. Prove the row's statement (the work); the ties are given (YtpbkdbicdimfhaaDoorTie.lean); close each card by the builder's one call (the guide's Derived/Test/ToyasCard.lean, 'card_holds'). Laid BY PROGRAM, IN A SANDBOX (cutbox-door.mjs). By AI agents, Wed Nov 11 2026. No macro, syntax, notation, axiom, sorry.
-/
import Derived.Test.YtpbkdbicdimfhaaDoorRows
import GoSem.ClaimSeven
namespace Go.Proofs.YtpbkdbicdimfhaaDoor
namespace Rows

/-- THE TIED CARD OF 'priceofficelaw05.CalendarDates'. -/
def calendarDatesCard : Claim7 := { stood := { row := calendarDatesRow, standIns := [], harness := (true, "17bdcbf376f2bd0eea6a0bcf93b9e45a8740e99beb530db06b73fab2ce464203"), looks := true }, kinds := [], alts := [], laidByText := true, laidKinds := [.data, .data, .data], laidTests := true, laidLooks := .later }
def CalendarDatesCardSaid : Prop := Claim7.holds Tryd.pinned (.plain (OpenSpec.ofChange calendarDatesSpec)) calendarDatesCard

/-- THE TIED CARD OF 'priceofficelaw05.CalendarBusiness'. -/
def calendarBusinessCard : Claim7 := { stood := { row := calendarBusinessRow, standIns := [], harness := (true, "17bdcbf376f2bd0eea6a0bcf93b9e45a8740e99beb530db06b73fab2ce464203"), looks := true }, kinds := [], alts := [], laidByText := true, laidKinds := [.data, .data, .data], laidTests := true, laidLooks := .later }
def CalendarBusinessCardSaid : Prop := Claim7.holds Tryd.pinned (.plain (OpenSpec.ofChange calendarBusinessSpec)) calendarBusinessCard

/-- THE TIED CARD OF 'priceofficelaw05.CalendarMonths'. -/
def calendarMonthsCard : Claim7 := { stood := { row := calendarMonthsRow, standIns := [], harness := (true, "17bdcbf376f2bd0eea6a0bcf93b9e45a8740e99beb530db06b73fab2ce464203"), looks := true }, kinds := [], alts := [], laidByText := true, laidKinds := [.data, .data, .data], laidTests := true, laidLooks := .later }
def CalendarMonthsCardSaid : Prop := Claim7.holds Tryd.pinned (.plain (OpenSpec.ofChange calendarMonthsSpec)) calendarMonthsCard

/-- THE TIED CARD OF 'priceofficelaw05.CalendarNext'. -/
def calendarNextCard : Claim7 := { stood := { row := calendarNextRow, standIns := [], harness := (true, "17bdcbf376f2bd0eea6a0bcf93b9e45a8740e99beb530db06b73fab2ce464203"), looks := true }, kinds := [], alts := [], laidByText := true, laidKinds := [.data, .data, .data], laidTests := true, laidLooks := .later }
def CalendarNextCardSaid : Prop := Claim7.holds Tryd.pinned (.plain (OpenSpec.ofChange calendarNextSpec)) calendarNextCard

/-- THE TIED CARD OF 'priceofficelaw05.CalendarDays'. -/
def calendarDaysCard : Claim7 := { stood := { row := calendarDaysRow, standIns := [], harness := (true, "17bdcbf376f2bd0eea6a0bcf93b9e45a8740e99beb530db06b73fab2ce464203"), looks := true }, kinds := [], alts := [], laidByText := true, laidKinds := [.data, .data, .data], laidTests := true, laidLooks := .later }
def CalendarDaysCardSaid : Prop := Claim7.holds Tryd.pinned (.plain (OpenSpec.ofChange calendarDaysSpec)) calendarDaysCard

/-- THE TIED CARD OF 'priceofficelaw05.CalendarLimits'. -/
def calendarLimitsCard : Claim7 := { stood := { row := calendarLimitsRow, standIns := [], harness := (true, "17bdcbf376f2bd0eea6a0bcf93b9e45a8740e99beb530db06b73fab2ce464203"), looks := true }, kinds := [], alts := [], laidByText := true, laidKinds := [.data, .data, .data], laidTests := true, laidLooks := .later }
def CalendarLimitsCardSaid : Prop := Claim7.holds Tryd.pinned (.plain (OpenSpec.ofChange calendarLimitsSpec)) calendarLimitsCard

/-- THE TIED CARD OF 'priceofficelaw05.CalendarBack'. -/
def calendarBackCard : Claim7 := { stood := { row := calendarBackRow, standIns := [], harness := (true, "17bdcbf376f2bd0eea6a0bcf93b9e45a8740e99beb530db06b73fab2ce464203"), looks := true }, kinds := [], alts := [], laidByText := true, laidKinds := [.data, .data, .data], laidTests := true, laidLooks := .later }
def CalendarBackCardSaid : Prop := Claim7.holds Tryd.pinned (.plain (OpenSpec.ofChange calendarBackSpec)) calendarBackCard

/-- THE TIED CARD OF 'priceofficelaw05.CalendarWeeks'. -/
def calendarWeeksCard : Claim7 := { stood := { row := calendarWeeksRow, standIns := [], harness := (true, "17bdcbf376f2bd0eea6a0bcf93b9e45a8740e99beb530db06b73fab2ce464203"), looks := true }, kinds := [], alts := [], laidByText := true, laidKinds := [.data, .data, .data], laidTests := true, laidLooks := .later }
def CalendarWeeksCardSaid : Prop := Claim7.holds Tryd.pinned (.plain (OpenSpec.ofChange calendarWeeksSpec)) calendarWeeksCard

/-- THE TIED CARD OF 'priceofficelaw05.CalendarCounts'. -/
def calendarCountsCard : Claim7 := { stood := { row := calendarCountsRow, standIns := [], harness := (true, "17bdcbf376f2bd0eea6a0bcf93b9e45a8740e99beb530db06b73fab2ce464203"), looks := true }, kinds := [], alts := [], laidByText := true, laidKinds := [.data, .data, .data], laidTests := true, laidLooks := .later }
def CalendarCountsCardSaid : Prop := Claim7.holds Tryd.pinned (.plain (OpenSpec.ofChange calendarCountsSpec)) calendarCountsCard

/-- THE TIED CARD OF 'priceofficelaw05.CalendarTexts'. -/
def calendarTextsCard : Claim7 := { stood := { row := calendarTextsRow, standIns := [], harness := (true, "17bdcbf376f2bd0eea6a0bcf93b9e45a8740e99beb530db06b73fab2ce464203"), looks := true }, kinds := [], alts := [], laidByText := true, laidKinds := [.data, .data, .data, .data, .sentinel, .sentinel, .pinned], laidTests := true, laidLooks := .later }
def CalendarTextsCardSaid : Prop := Claim7.holds Tryd.pinned (.plain (OpenSpec.ofChange calendarTextsSpec)) calendarTextsCard

/-- THE TIED CARD OF 'priceofficelaw05.CalendarReads'. -/
def calendarReadsCard : Claim7 := { stood := { row := calendarReadsRow, standIns := [], harness := (true, "17bdcbf376f2bd0eea6a0bcf93b9e45a8740e99beb530db06b73fab2ce464203"), looks := true }, kinds := [], alts := [], laidByText := true, laidKinds := [.data, .data, .data, .data, .sentinel, .sentinel, .pinned], laidTests := true, laidLooks := .later }
def CalendarReadsCardSaid : Prop := Claim7.holds Tryd.pinned (.plain (OpenSpec.ofChange calendarReadsSpec)) calendarReadsCard

/-- THE SECOND FORM's CARD OF 'priceofficelaw05.CalendarDates'. -/
def calendarDatesUptoCard : Claim7 := { stood := { row := calendarDatesUptoRow, standIns := [], harness := (true, "17bdcbf376f2bd0eea6a0bcf93b9e45a8740e99beb530db06b73fab2ce464203"), looks := true }, kinds := [], alts := [], laidByText := true, laidKinds := [.data, .data, .data], laidTests := true, laidLooks := .later }
def CalendarDatesUptoCardSaid : Prop := Claim7.holds Tryd.pinned (.plain (OpenSpec.upto calendarDatesSpec)) calendarDatesUptoCard

/-- THE SECOND FORM's CARD OF 'priceofficelaw05.CalendarBusiness'. -/
def calendarBusinessUptoCard : Claim7 := { stood := { row := calendarBusinessUptoRow, standIns := [], harness := (true, "17bdcbf376f2bd0eea6a0bcf93b9e45a8740e99beb530db06b73fab2ce464203"), looks := true }, kinds := [], alts := [], laidByText := true, laidKinds := [.data, .data, .data], laidTests := true, laidLooks := .later }
def CalendarBusinessUptoCardSaid : Prop := Claim7.holds Tryd.pinned (.plain (OpenSpec.upto calendarBusinessSpec)) calendarBusinessUptoCard

/-- THE SECOND FORM's CARD OF 'priceofficelaw05.CalendarMonths'. -/
def calendarMonthsUptoCard : Claim7 := { stood := { row := calendarMonthsUptoRow, standIns := [], harness := (true, "17bdcbf376f2bd0eea6a0bcf93b9e45a8740e99beb530db06b73fab2ce464203"), looks := true }, kinds := [], alts := [], laidByText := true, laidKinds := [.data, .data, .data], laidTests := true, laidLooks := .later }
def CalendarMonthsUptoCardSaid : Prop := Claim7.holds Tryd.pinned (.plain (OpenSpec.upto calendarMonthsSpec)) calendarMonthsUptoCard

/-- THE SECOND FORM's CARD OF 'priceofficelaw05.CalendarNext'. -/
def calendarNextUptoCard : Claim7 := { stood := { row := calendarNextUptoRow, standIns := [], harness := (true, "17bdcbf376f2bd0eea6a0bcf93b9e45a8740e99beb530db06b73fab2ce464203"), looks := true }, kinds := [], alts := [], laidByText := true, laidKinds := [.data, .data, .data], laidTests := true, laidLooks := .later }
def CalendarNextUptoCardSaid : Prop := Claim7.holds Tryd.pinned (.plain (OpenSpec.upto calendarNextSpec)) calendarNextUptoCard

/-- THE SECOND FORM's CARD OF 'priceofficelaw05.CalendarDays'. -/
def calendarDaysUptoCard : Claim7 := { stood := { row := calendarDaysUptoRow, standIns := [], harness := (true, "17bdcbf376f2bd0eea6a0bcf93b9e45a8740e99beb530db06b73fab2ce464203"), looks := true }, kinds := [], alts := [], laidByText := true, laidKinds := [.data, .data, .data], laidTests := true, laidLooks := .later }
def CalendarDaysUptoCardSaid : Prop := Claim7.holds Tryd.pinned (.plain (OpenSpec.upto calendarDaysSpec)) calendarDaysUptoCard

/-- THE SECOND FORM's CARD OF 'priceofficelaw05.CalendarLimits'. -/
def calendarLimitsUptoCard : Claim7 := { stood := { row := calendarLimitsUptoRow, standIns := [], harness := (true, "17bdcbf376f2bd0eea6a0bcf93b9e45a8740e99beb530db06b73fab2ce464203"), looks := true }, kinds := [], alts := [], laidByText := true, laidKinds := [.data, .data, .data], laidTests := true, laidLooks := .later }
def CalendarLimitsUptoCardSaid : Prop := Claim7.holds Tryd.pinned (.plain (OpenSpec.upto calendarLimitsSpec)) calendarLimitsUptoCard

/-- THE SECOND FORM's CARD OF 'priceofficelaw05.CalendarBack'. -/
def calendarBackUptoCard : Claim7 := { stood := { row := calendarBackUptoRow, standIns := [], harness := (true, "17bdcbf376f2bd0eea6a0bcf93b9e45a8740e99beb530db06b73fab2ce464203"), looks := true }, kinds := [], alts := [], laidByText := true, laidKinds := [.data, .data, .data], laidTests := true, laidLooks := .later }
def CalendarBackUptoCardSaid : Prop := Claim7.holds Tryd.pinned (.plain (OpenSpec.upto calendarBackSpec)) calendarBackUptoCard

/-- THE SECOND FORM's CARD OF 'priceofficelaw05.CalendarWeeks'. -/
def calendarWeeksUptoCard : Claim7 := { stood := { row := calendarWeeksUptoRow, standIns := [], harness := (true, "17bdcbf376f2bd0eea6a0bcf93b9e45a8740e99beb530db06b73fab2ce464203"), looks := true }, kinds := [], alts := [], laidByText := true, laidKinds := [.data, .data, .data], laidTests := true, laidLooks := .later }
def CalendarWeeksUptoCardSaid : Prop := Claim7.holds Tryd.pinned (.plain (OpenSpec.upto calendarWeeksSpec)) calendarWeeksUptoCard

/-- THE SECOND FORM's CARD OF 'priceofficelaw05.CalendarCounts'. -/
def calendarCountsUptoCard : Claim7 := { stood := { row := calendarCountsUptoRow, standIns := [], harness := (true, "17bdcbf376f2bd0eea6a0bcf93b9e45a8740e99beb530db06b73fab2ce464203"), looks := true }, kinds := [], alts := [], laidByText := true, laidKinds := [.data, .data, .data], laidTests := true, laidLooks := .later }
def CalendarCountsUptoCardSaid : Prop := Claim7.holds Tryd.pinned (.plain (OpenSpec.upto calendarCountsSpec)) calendarCountsUptoCard

/-- THE SECOND FORM's CARD OF 'priceofficelaw05.CalendarTexts'. -/
def calendarTextsUptoCard : Claim7 := { stood := { row := calendarTextsUptoRow, standIns := [], harness := (true, "17bdcbf376f2bd0eea6a0bcf93b9e45a8740e99beb530db06b73fab2ce464203"), looks := true }, kinds := [], alts := [], laidByText := true, laidKinds := [.data, .data, .data, .data, .sentinel, .sentinel, .pinned], laidTests := true, laidLooks := .later }
def CalendarTextsUptoCardSaid : Prop := Claim7.holds Tryd.pinned (.plain (OpenSpec.upto calendarTextsSpec)) calendarTextsUptoCard

/-- THE SECOND FORM's CARD OF 'priceofficelaw05.CalendarReads'. -/
def calendarReadsUptoCard : Claim7 := { stood := { row := calendarReadsUptoRow, standIns := [], harness := (true, "17bdcbf376f2bd0eea6a0bcf93b9e45a8740e99beb530db06b73fab2ce464203"), looks := true }, kinds := [], alts := [], laidByText := true, laidKinds := [.data, .data, .data, .data, .sentinel, .sentinel, .pinned], laidTests := true, laidLooks := .later }
def CalendarReadsUptoCardSaid : Prop := Claim7.holds Tryd.pinned (.plain (OpenSpec.upto calendarReadsSpec)) calendarReadsUptoCard
end Rows
end Go.Proofs.YtpbkdbicdimfhaaDoor
