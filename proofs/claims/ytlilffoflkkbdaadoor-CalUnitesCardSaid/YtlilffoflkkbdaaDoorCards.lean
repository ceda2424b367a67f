/-
  DERIVED. GIVEN WITH THE SEED: THE CARDS: each row of YtlilffoflkkbdaaDoorRows.lean that lists a variable, with what it lists TIED to the program's text (the seventh form; the later family's looks); each row that meets fmt, with fmt's text TOLD by the authors' own Lean function (tested against real Go, not proved from fmt's source: count such statements apart). THE CARD IS WHAT COUNTS. Prove the row's statement (the work); the ties are given (YtlilffoflkkbdaaDoorTie.lean); close each card by the builder's one call (the guide's Derived/Test/ToyasCard.lean, 'card_holds'). Laid BY PROGRAM, IN A SANDBOX (cutbox-door.mjs). By AI agents, Wed Nov 11 2026. No macro, syntax, notation, axiom, sorry.
-/
import Derived.Test.YtlilffoflkkbdaaDoorRows
import GoSem.ClaimSeven
namespace Go.Proofs.YtlilffoflkkbdaaDoor
namespace Rows

/-- THE TIED CARD OF 'demurragelaw14.RollTells'. -/
def rollTellsCard : Claim7 := { stood := { row := rollTellsRow, standIns := [], harness := (true, "9543263f4a4d87908ee4aeb43dcb6e93c8cabc70966df3040a4fe8a0daefffc2"), looks := false }, kinds := [], alts := [], laidByText := true, laidKinds := [.data, .widerDeep], laidTests := true, laidLooks := .later }
def RollTellsCardSaid : Prop := Claim7.holds Tryd.pinned (.plain (OpenSpec.ofChange rollTellsSpec)) rollTellsCard

/-- THE TIED CARD OF 'demurragelaw14.RollNearest'. -/
def rollNearestCard : Claim7 := { stood := { row := rollNearestRow, standIns := [], harness := (true, "9543263f4a4d87908ee4aeb43dcb6e93c8cabc70966df3040a4fe8a0daefffc2"), looks := false }, kinds := [], alts := [], laidByText := true, laidKinds := [.data, .widerDeep], laidTests := true, laidLooks := .later }
def RollNearestCardSaid : Prop := Claim7.holds Tryd.pinned (.plain (OpenSpec.ofChange rollNearestSpec)) rollNearestCard

/-- THE TIED CARD OF 'demurragelaw14.RollMonth'. -/
def rollMonthCard : Claim7 := { stood := { row := rollMonthRow, standIns := [], harness := (true, "9543263f4a4d87908ee4aeb43dcb6e93c8cabc70966df3040a4fe8a0daefffc2"), looks := false }, kinds := [], alts := [], laidByText := true, laidKinds := [.data, .widerDeep], laidTests := true, laidLooks := .later }
def RollMonthCardSaid : Prop := Claim7.holds Tryd.pinned (.plain (OpenSpec.ofChange rollMonthSpec)) rollMonthCard

/-- THE TIED CARD OF 'demurragelaw14.RollRises'. -/
def rollRisesCard : Claim7 := { stood := { row := rollRisesRow, standIns := [], harness := (true, "9543263f4a4d87908ee4aeb43dcb6e93c8cabc70966df3040a4fe8a0daefffc2"), looks := false }, kinds := [], alts := [], laidByText := true, laidKinds := [.data, .widerDeep], laidTests := true, laidLooks := .later }
def RollRisesCardSaid : Prop := Claim7.holds Tryd.pinned (.plain (OpenSpec.ofChange rollRisesSpec)) rollRisesCard

/-- THE TIED CARD OF 'demurragelaw14.RollOpen'. -/
def rollOpenCard : Claim7 := { stood := { row := rollOpenRow, standIns := [], harness := (true, "9543263f4a4d87908ee4aeb43dcb6e93c8cabc70966df3040a4fe8a0daefffc2"), looks := false }, kinds := [], alts := [], laidByText := true, laidKinds := [.data, .widerDeep], laidTests := true, laidLooks := .later }
def RollOpenCardSaid : Prop := Claim7.holds Tryd.pinned (.plain (OpenSpec.ofChange rollOpenSpec)) rollOpenCard

/-- THE TIED CARD OF 'demurragelaw14.RollTwins'. -/
def rollTwinsCard : Claim7 := { stood := { row := rollTwinsRow, standIns := [], harness := (true, "9543263f4a4d87908ee4aeb43dcb6e93c8cabc70966df3040a4fe8a0daefffc2"), looks := false }, kinds := [], alts := [], laidByText := true, laidKinds := [.data, .widerDeep], laidTests := true, laidLooks := .later }
def RollTwinsCardSaid : Prop := Claim7.holds Tryd.pinned (.plain (OpenSpec.ofChange rollTwinsSpec)) rollTwinsCard

/-- THE TIED CARD OF 'demurragelaw13.CalTells'. -/
def calTellsCard : Claim7 := { stood := { row := calTellsRow, standIns := [], harness := (true, "9543263f4a4d87908ee4aeb43dcb6e93c8cabc70966df3040a4fe8a0daefffc2"), looks := false }, kinds := [], alts := [], laidByText := true, laidKinds := [.data, .data], laidTests := true, laidLooks := .later }
def CalTellsCardSaid : Prop := Claim7.holds Tryd.pinned (.plain (OpenSpec.ofChange calTellsSpec)) calTellsCard

/-- THE TIED CARD OF 'demurragelaw13.CalUnites'. -/
def calUnitesCard : Claim7 := { stood := { row := calUnitesRow, standIns := [], harness := (true, "9543263f4a4d87908ee4aeb43dcb6e93c8cabc70966df3040a4fe8a0daefffc2"), looks := false }, kinds := [], alts := [], laidByText := true, laidKinds := [.data, .data], laidTests := true, laidLooks := .later }
def CalUnitesCardSaid : Prop := Claim7.holds Tryd.pinned (.plain (OpenSpec.ofChange calUnitesSpec)) calUnitesCard

/-- THE TIED CARD OF 'demurragelaw13.CalBoth'. -/
def calBothCard : Claim7 := { stood := { row := calBothRow, standIns := [], harness := (true, "9543263f4a4d87908ee4aeb43dcb6e93c8cabc70966df3040a4fe8a0daefffc2"), looks := false }, kinds := [], alts := [], laidByText := true, laidKinds := [.data, .data], laidTests := true, laidLooks := .later }
def CalBothCardSaid : Prop := Claim7.holds Tryd.pinned (.plain (OpenSpec.ofChange calBothSpec)) calBothCard

/-- THE TIED CARD OF 'demurragelaw13.CalSums'. -/
def calSumsCard : Claim7 := { stood := { row := calSumsRow, standIns := [], harness := (true, "9543263f4a4d87908ee4aeb43dcb6e93c8cabc70966df3040a4fe8a0daefffc2"), looks := false }, kinds := [], alts := [], laidByText := true, laidKinds := [.data, .data], laidTests := true, laidLooks := .later }
def CalSumsCardSaid : Prop := Claim7.holds Tryd.pinned (.plain (OpenSpec.ofChange calSumsSpec)) calSumsCard

/-- THE TIED CARD OF 'demurragelaw13.CalWeeks'. -/
def calWeeksCard : Claim7 := { stood := { row := calWeeksRow, standIns := [], harness := (true, "9543263f4a4d87908ee4aeb43dcb6e93c8cabc70966df3040a4fe8a0daefffc2"), looks := false }, kinds := [], alts := [], laidByText := true, laidKinds := [.data, .data], laidTests := true, laidLooks := .later }
def CalWeeksCardSaid : Prop := Claim7.holds Tryd.pinned (.plain (OpenSpec.ofChange calWeeksSpec)) calWeeksCard

/-- THE TIED CARD OF 'demurragelaw13.CalRules'. -/
def calRulesCard : Claim7 := { stood := { row := calRulesRow, standIns := [], harness := (true, "9543263f4a4d87908ee4aeb43dcb6e93c8cabc70966df3040a4fe8a0daefffc2"), looks := false }, kinds := [], alts := [], laidByText := true, laidKinds := [.data, .data], laidTests := true, laidLooks := .later }
def CalRulesCardSaid : Prop := Claim7.holds Tryd.pinned (.plain (OpenSpec.ofChange calRulesSpec)) calRulesCard

/-- THE TIED CARD OF 'demurragelaw13.CalOrder'. -/
def calOrderCard : Claim7 := { stood := { row := calOrderRow, standIns := [], harness := (true, "9543263f4a4d87908ee4aeb43dcb6e93c8cabc70966df3040a4fe8a0daefffc2"), looks := false }, kinds := [], alts := [], laidByText := true, laidKinds := [.data, .data], laidTests := true, laidLooks := .later }
def CalOrderCardSaid : Prop := Claim7.holds Tryd.pinned (.plain (OpenSpec.ofChange calOrderSpec)) calOrderCard

/-- THE TIED CARD OF 'demurragelaw13.CalWhole'. -/
def calWholeCard : Claim7 := { stood := { row := calWholeRow, standIns := [], harness := (true, "9543263f4a4d87908ee4aeb43dcb6e93c8cabc70966df3040a4fe8a0daefffc2"), looks := false }, kinds := [], alts := [], laidByText := true, laidKinds := [.data, .data], laidTests := true, laidLooks := .later }
def CalWholeCardSaid : Prop := Claim7.holds Tryd.pinned (.plain (OpenSpec.ofChange calWholeSpec)) calWholeCard

/-- THE SECOND FORM's CARD OF 'demurragelaw14.RollTells'. -/
def rollTellsUptoCard : Claim7 := { stood := { row := rollTellsUptoRow, standIns := [], harness := (true, "9543263f4a4d87908ee4aeb43dcb6e93c8cabc70966df3040a4fe8a0daefffc2"), looks := false }, kinds := [], alts := [], laidByText := true, laidKinds := [.data, .widerDeep], laidTests := true, laidLooks := .later }
def RollTellsUptoCardSaid : Prop := Claim7.holds Tryd.pinned (.plain (OpenSpec.upto rollTellsSpec)) rollTellsUptoCard

/-- THE SECOND FORM's CARD OF 'demurragelaw14.RollNearest'. -/
def rollNearestUptoCard : Claim7 := { stood := { row := rollNearestUptoRow, standIns := [], harness := (true, "9543263f4a4d87908ee4aeb43dcb6e93c8cabc70966df3040a4fe8a0daefffc2"), looks := false }, kinds := [], alts := [], laidByText := true, laidKinds := [.data, .widerDeep], laidTests := true, laidLooks := .later }
def RollNearestUptoCardSaid : Prop := Claim7.holds Tryd.pinned (.plain (OpenSpec.upto rollNearestSpec)) rollNearestUptoCard

/-- THE SECOND FORM's CARD OF 'demurragelaw14.RollMonth'. -/
def rollMonthUptoCard : Claim7 := { stood := { row := rollMonthUptoRow, standIns := [], harness := (true, "9543263f4a4d87908ee4aeb43dcb6e93c8cabc70966df3040a4fe8a0daefffc2"), looks := false }, kinds := [], alts := [], laidByText := true, laidKinds := [.data, .widerDeep], laidTests := true, laidLooks := .later }
def RollMonthUptoCardSaid : Prop := Claim7.holds Tryd.pinned (.plain (OpenSpec.upto rollMonthSpec)) rollMonthUptoCard

/-- THE SECOND FORM's CARD OF 'demurragelaw14.RollRises'. -/
def rollRisesUptoCard : Claim7 := { stood := { row := rollRisesUptoRow, standIns := [], harness := (true, "9543263f4a4d87908ee4aeb43dcb6e93c8cabc70966df3040a4fe8a0daefffc2"), looks := false }, kinds := [], alts := [], laidByText := true, laidKinds := [.data, .widerDeep], laidTests := true, laidLooks := .later }
def RollRisesUptoCardSaid : Prop := Claim7.holds Tryd.pinned (.plain (OpenSpec.upto rollRisesSpec)) rollRisesUptoCard

/-- THE SECOND FORM's CARD OF 'demurragelaw14.RollOpen'. -/
def rollOpenUptoCard : Claim7 := { stood := { row := rollOpenUptoRow, standIns := [], harness := (true, "9543263f4a4d87908ee4aeb43dcb6e93c8cabc70966df3040a4fe8a0daefffc2"), looks := false }, kinds := [], alts := [], laidByText := true, laidKinds := [.data, .widerDeep], laidTests := true, laidLooks := .later }
def RollOpenUptoCardSaid : Prop := Claim7.holds Tryd.pinned (.plain (OpenSpec.upto rollOpenSpec)) rollOpenUptoCard

/-- THE SECOND FORM's CARD OF 'demurragelaw14.RollTwins'. -/
def rollTwinsUptoCard : Claim7 := { stood := { row := rollTwinsUptoRow, standIns := [], harness := (true, "9543263f4a4d87908ee4aeb43dcb6e93c8cabc70966df3040a4fe8a0daefffc2"), looks := false }, kinds := [], alts := [], laidByText := true, laidKinds := [.data, .widerDeep], laidTests := true, laidLooks := .later }
def RollTwinsUptoCardSaid : Prop := Claim7.holds Tryd.pinned (.plain (OpenSpec.upto rollTwinsSpec)) rollTwinsUptoCard

/-- THE SECOND FORM's CARD OF 'demurragelaw13.CalTells'. -/
def calTellsUptoCard : Claim7 := { stood := { row := calTellsUptoRow, standIns := [], harness := (true, "9543263f4a4d87908ee4aeb43dcb6e93c8cabc70966df3040a4fe8a0daefffc2"), looks := false }, kinds := [], alts := [], laidByText := true, laidKinds := [.data, .data], laidTests := true, laidLooks := .later }
def CalTellsUptoCardSaid : Prop := Claim7.holds Tryd.pinned (.plain (OpenSpec.upto calTellsSpec)) calTellsUptoCard

/-- THE SECOND FORM's CARD OF 'demurragelaw13.CalUnites'. -/
def calUnitesUptoCard : Claim7 := { stood := { row := calUnitesUptoRow, standIns := [], harness := (true, "9543263f4a4d87908ee4aeb43dcb6e93c8cabc70966df3040a4fe8a0daefffc2"), looks := false }, kinds := [], alts := [], laidByText := true, laidKinds := [.data, .data], laidTests := true, laidLooks := .later }
def CalUnitesUptoCardSaid : Prop := Claim7.holds Tryd.pinned (.plain (OpenSpec.upto calUnitesSpec)) calUnitesUptoCard

/-- THE SECOND FORM's CARD OF 'demurragelaw13.CalBoth'. -/
def calBothUptoCard : Claim7 := { stood := { row := calBothUptoRow, standIns := [], harness := (true, "9543263f4a4d87908ee4aeb43dcb6e93c8cabc70966df3040a4fe8a0daefffc2"), looks := false }, kinds := [], alts := [], laidByText := true, laidKinds := [.data, .data], laidTests := true, laidLooks := .later }
def CalBothUptoCardSaid : Prop := Claim7.holds Tryd.pinned (.plain (OpenSpec.upto calBothSpec)) calBothUptoCard

/-- THE SECOND FORM's CARD OF 'demurragelaw13.CalSums'. -/
def calSumsUptoCard : Claim7 := { stood := { row := calSumsUptoRow, standIns := [], harness := (true, "9543263f4a4d87908ee4aeb43dcb6e93c8cabc70966df3040a4fe8a0daefffc2"), looks := false }, kinds := [], alts := [], laidByText := true, laidKinds := [.data, .data], laidTests := true, laidLooks := .later }
def CalSumsUptoCardSaid : Prop := Claim7.holds Tryd.pinned (.plain (OpenSpec.upto calSumsSpec)) calSumsUptoCard

/-- THE SECOND FORM's CARD OF 'demurragelaw13.CalWeeks'. -/
def calWeeksUptoCard : Claim7 := { stood := { row := calWeeksUptoRow, standIns := [], harness := (true, "9543263f4a4d87908ee4aeb43dcb6e93c8cabc70966df3040a4fe8a0daefffc2"), looks := false }, kinds := [], alts := [], laidByText := true, laidKinds := [.data, .data], laidTests := true, laidLooks := .later }
def CalWeeksUptoCardSaid : Prop := Claim7.holds Tryd.pinned (.plain (OpenSpec.upto calWeeksSpec)) calWeeksUptoCard

/-- THE SECOND FORM's CARD OF 'demurragelaw13.CalRules'. -/
def calRulesUptoCard : Claim7 := { stood := { row := calRulesUptoRow, standIns := [], harness := (true, "9543263f4a4d87908ee4aeb43dcb6e93c8cabc70966df3040a4fe8a0daefffc2"), looks := false }, kinds := [], alts := [], laidByText := true, laidKinds := [.data, .data], laidTests := true, laidLooks := .later }
def CalRulesUptoCardSaid : Prop := Claim7.holds Tryd.pinned (.plain (OpenSpec.upto calRulesSpec)) calRulesUptoCard

/-- THE SECOND FORM's CARD OF 'demurragelaw13.CalOrder'. -/
def calOrderUptoCard : Claim7 := { stood := { row := calOrderUptoRow, standIns := [], harness := (true, "9543263f4a4d87908ee4aeb43dcb6e93c8cabc70966df3040a4fe8a0daefffc2"), looks := false }, kinds := [], alts := [], laidByText := true, laidKinds := [.data, .data], laidTests := true, laidLooks := .later }
def CalOrderUptoCardSaid : Prop := Claim7.holds Tryd.pinned (.plain (OpenSpec.upto calOrderSpec)) calOrderUptoCard

/-- THE SECOND FORM's CARD OF 'demurragelaw13.CalWhole'. -/
def calWholeUptoCard : Claim7 := { stood := { row := calWholeUptoRow, standIns := [], harness := (true, "9543263f4a4d87908ee4aeb43dcb6e93c8cabc70966df3040a4fe8a0daefffc2"), looks := false }, kinds := [], alts := [], laidByText := true, laidKinds := [.data, .data], laidTests := true, laidLooks := .later }
def CalWholeUptoCardSaid : Prop := Claim7.holds Tryd.pinned (.plain (OpenSpec.upto calWholeSpec)) calWholeUptoCard
end Rows
end Go.Proofs.YtlilffoflkkbdaaDoor
