/-
  DERIVED. GIVEN WITH THE SEED: THE CARDS: each row of YtjcjchapfiokeaaDoorRows.lean that lists a variable, with what it lists TIED to the program's text (the seventh form; the later family's looks); each row that meets fmt, with fmt's text TOLD by the authors' own Lean function (tested against real Go, not proved from fmt's source: count such statements apart). THE CARD IS WHAT COUNTS. Prove the row's statement (the work); the ties are given (YtjcjchapfiokeaaDoorTie.lean); close each card by the builder's one call (the guide's Derived/Test/ToyasCard.lean, 'card_holds'). Laid BY PROGRAM, IN A SANDBOX (cutbox-door.mjs). By AI agents, Wed Nov 11 2026. No macro, syntax, notation, axiom, sorry.
-/
import Derived.Test.YtjcjchapfiokeaaDoorRows
import GoSem.ClaimSeven
namespace Go.Proofs.YtjcjchapfiokeaaDoor
namespace Rows

/-- THE TIED CARD OF 'demurragelaw12.RuleTells'. -/
def ruleTellsCard : Claim7 := { stood := { row := ruleTellsRow, standIns := [], harness := (true, "20d811dd4b3e0174b217eac3203dd9649e30b76d02fb4286f001344ee5783b37"), looks := false }, kinds := [], alts := [], laidByText := true, laidKinds := [.data], laidTests := true, laidLooks := .later }
def RuleTellsCardSaid : Prop := Claim7.holds Tryd.pinned (.plain (OpenSpec.ofChange ruleTellsSpec)) ruleTellsCard

/-- THE TIED CARD OF 'demurragelaw12.RuleShifts'. -/
def ruleShiftsCard : Claim7 := { stood := { row := ruleShiftsRow, standIns := [], harness := (true, "20d811dd4b3e0174b217eac3203dd9649e30b76d02fb4286f001344ee5783b37"), looks := false }, kinds := [], alts := [], laidByText := true, laidKinds := [.data], laidTests := true, laidLooks := .later }
def RuleShiftsCardSaid : Prop := Claim7.holds Tryd.pinned (.plain (OpenSpec.ofChange ruleShiftsSpec)) ruleShiftsCard

/-- THE TIED CARD OF 'demurragelaw12.RuleDays'. -/
def ruleDaysCard : Claim7 := { stood := { row := ruleDaysRow, standIns := [], harness := (true, "20d811dd4b3e0174b217eac3203dd9649e30b76d02fb4286f001344ee5783b37"), looks := false }, kinds := [], alts := [], laidByText := true, laidKinds := [.data], laidTests := true, laidLooks := .later }
def RuleDaysCardSaid : Prop := Claim7.holds Tryd.pinned (.plain (OpenSpec.ofChange ruleDaysSpec)) ruleDaysCard

/-- THE TIED CARD OF 'demurragelaw12.RuleMany'. -/
def ruleManyCard : Claim7 := { stood := { row := ruleManyRow, standIns := [], harness := (true, "20d811dd4b3e0174b217eac3203dd9649e30b76d02fb4286f001344ee5783b37"), looks := false }, kinds := [], alts := [], laidByText := true, laidKinds := [.data], laidTests := true, laidLooks := .later }
def RuleManyCardSaid : Prop := Claim7.holds Tryd.pinned (.plain (OpenSpec.ofChange ruleManySpec)) ruleManyCard

/-- THE TIED CARD OF 'demurragelaw12.RuleUnused'. -/
def ruleUnusedCard : Claim7 := { stood := { row := ruleUnusedRow, standIns := [], harness := (true, "20d811dd4b3e0174b217eac3203dd9649e30b76d02fb4286f001344ee5783b37"), looks := false }, kinds := [], alts := [], laidByText := true, laidKinds := [.data], laidTests := true, laidLooks := .later }
def RuleUnusedCardSaid : Prop := Claim7.holds Tryd.pinned (.plain (OpenSpec.ofChange ruleUnusedSpec)) ruleUnusedCard

/-- THE TIED CARD OF 'demurragelaw12.RuleYears'. -/
def ruleYearsCard : Claim7 := { stood := { row := ruleYearsRow, standIns := [], harness := (true, "20d811dd4b3e0174b217eac3203dd9649e30b76d02fb4286f001344ee5783b37"), looks := false }, kinds := [], alts := [], laidByText := true, laidKinds := [.data], laidTests := true, laidLooks := .later }
def RuleYearsCardSaid : Prop := Claim7.holds Tryd.pinned (.plain (OpenSpec.ofChange ruleYearsSpec)) ruleYearsCard

/-- THE TIED CARD OF 'demurragelaw07.ThirtyTells'. -/
def thirtyTellsCard : Claim7 := { stood := { row := thirtyTellsRow, standIns := [], harness := (true, "20d811dd4b3e0174b217eac3203dd9649e30b76d02fb4286f001344ee5783b37"), looks := false }, kinds := [], alts := [], laidByText := true, laidKinds := [.data], laidTests := true, laidLooks := .later }
def ThirtyTellsCardSaid : Prop := Claim7.holds Tryd.pinned (.plain (OpenSpec.ofChange thirtyTellsSpec)) thirtyTellsCard

/-- THE TIED CARD OF 'demurragelaw07.ThirtyYears'. -/
def thirtyYearsCard : Claim7 := { stood := { row := thirtyYearsRow, standIns := [], harness := (true, "20d811dd4b3e0174b217eac3203dd9649e30b76d02fb4286f001344ee5783b37"), looks := false }, kinds := [], alts := [], laidByText := true, laidKinds := [.data], laidTests := true, laidLooks := .later }
def ThirtyYearsCardSaid : Prop := Claim7.holds Tryd.pinned (.plain (OpenSpec.ofChange thirtyYearsSpec)) thirtyYearsCard

/-- THE TIED CARD OF 'demurragelaw07.ThirtyGrows'. -/
def thirtyGrowsCard : Claim7 := { stood := { row := thirtyGrowsRow, standIns := [], harness := (true, "20d811dd4b3e0174b217eac3203dd9649e30b76d02fb4286f001344ee5783b37"), looks := false }, kinds := [], alts := [], laidByText := true, laidKinds := [.data], laidTests := true, laidLooks := .later }
def ThirtyGrowsCardSaid : Prop := Claim7.holds Tryd.pinned (.plain (OpenSpec.ofChange thirtyGrowsSpec)) thirtyGrowsCard

/-- THE TIED CARD OF 'demurragelaw07.ThirtyAgree'. -/
def thirtyAgreeCard : Claim7 := { stood := { row := thirtyAgreeRow, standIns := [], harness := (true, "20d811dd4b3e0174b217eac3203dd9649e30b76d02fb4286f001344ee5783b37"), looks := false }, kinds := [], alts := [], laidByText := true, laidKinds := [.data], laidTests := true, laidLooks := .later }
def ThirtyAgreeCardSaid : Prop := Claim7.holds Tryd.pinned (.plain (OpenSpec.ofChange thirtyAgreeSpec)) thirtyAgreeCard

/-- THE TIED CARD OF 'demurragelaw07.ThirtyAdds'. -/
def thirtyAddsCard : Claim7 := { stood := { row := thirtyAddsRow, standIns := [], harness := (true, "20d811dd4b3e0174b217eac3203dd9649e30b76d02fb4286f001344ee5783b37"), looks := false }, kinds := [], alts := [], laidByText := true, laidKinds := [.data], laidTests := true, laidLooks := .later }
def ThirtyAddsCardSaid : Prop := Claim7.holds Tryd.pinned (.plain (OpenSpec.ofChange thirtyAddsSpec)) thirtyAddsCard

/-- THE TIED CARD OF 'demurragelaw07.ThirtyEnds'. -/
def thirtyEndsCard : Claim7 := { stood := { row := thirtyEndsRow, standIns := [], harness := (true, "20d811dd4b3e0174b217eac3203dd9649e30b76d02fb4286f001344ee5783b37"), looks := false }, kinds := [], alts := [], laidByText := true, laidKinds := [.data], laidTests := true, laidLooks := .later }
def ThirtyEndsCardSaid : Prop := Claim7.holds Tryd.pinned (.plain (OpenSpec.ofChange thirtyEndsSpec)) thirtyEndsCard

/-- THE SECOND FORM's CARD OF 'demurragelaw12.RuleTells'. -/
def ruleTellsUptoCard : Claim7 := { stood := { row := ruleTellsUptoRow, standIns := [], harness := (true, "20d811dd4b3e0174b217eac3203dd9649e30b76d02fb4286f001344ee5783b37"), looks := false }, kinds := [], alts := [], laidByText := true, laidKinds := [.data], laidTests := true, laidLooks := .later }
def RuleTellsUptoCardSaid : Prop := Claim7.holds Tryd.pinned (.plain (OpenSpec.upto ruleTellsSpec)) ruleTellsUptoCard

/-- THE SECOND FORM's CARD OF 'demurragelaw12.RuleShifts'. -/
def ruleShiftsUptoCard : Claim7 := { stood := { row := ruleShiftsUptoRow, standIns := [], harness := (true, "20d811dd4b3e0174b217eac3203dd9649e30b76d02fb4286f001344ee5783b37"), looks := false }, kinds := [], alts := [], laidByText := true, laidKinds := [.data], laidTests := true, laidLooks := .later }
def RuleShiftsUptoCardSaid : Prop := Claim7.holds Tryd.pinned (.plain (OpenSpec.upto ruleShiftsSpec)) ruleShiftsUptoCard

/-- THE SECOND FORM's CARD OF 'demurragelaw12.RuleDays'. -/
def ruleDaysUptoCard : Claim7 := { stood := { row := ruleDaysUptoRow, standIns := [], harness := (true, "20d811dd4b3e0174b217eac3203dd9649e30b76d02fb4286f001344ee5783b37"), looks := false }, kinds := [], alts := [], laidByText := true, laidKinds := [.data], laidTests := true, laidLooks := .later }
def RuleDaysUptoCardSaid : Prop := Claim7.holds Tryd.pinned (.plain (OpenSpec.upto ruleDaysSpec)) ruleDaysUptoCard

/-- THE SECOND FORM's CARD OF 'demurragelaw12.RuleMany'. -/
def ruleManyUptoCard : Claim7 := { stood := { row := ruleManyUptoRow, standIns := [], harness := (true, "20d811dd4b3e0174b217eac3203dd9649e30b76d02fb4286f001344ee5783b37"), looks := false }, kinds := [], alts := [], laidByText := true, laidKinds := [.data], laidTests := true, laidLooks := .later }
def RuleManyUptoCardSaid : Prop := Claim7.holds Tryd.pinned (.plain (OpenSpec.upto ruleManySpec)) ruleManyUptoCard

/-- THE SECOND FORM's CARD OF 'demurragelaw12.RuleUnused'. -/
def ruleUnusedUptoCard : Claim7 := { stood := { row := ruleUnusedUptoRow, standIns := [], harness := (true, "20d811dd4b3e0174b217eac3203dd9649e30b76d02fb4286f001344ee5783b37"), looks := false }, kinds := [], alts := [], laidByText := true, laidKinds := [.data], laidTests := true, laidLooks := .later }
def RuleUnusedUptoCardSaid : Prop := Claim7.holds Tryd.pinned (.plain (OpenSpec.upto ruleUnusedSpec)) ruleUnusedUptoCard

/-- THE SECOND FORM's CARD OF 'demurragelaw12.RuleYears'. -/
def ruleYearsUptoCard : Claim7 := { stood := { row := ruleYearsUptoRow, standIns := [], harness := (true, "20d811dd4b3e0174b217eac3203dd9649e30b76d02fb4286f001344ee5783b37"), looks := false }, kinds := [], alts := [], laidByText := true, laidKinds := [.data], laidTests := true, laidLooks := .later }
def RuleYearsUptoCardSaid : Prop := Claim7.holds Tryd.pinned (.plain (OpenSpec.upto ruleYearsSpec)) ruleYearsUptoCard

/-- THE SECOND FORM's CARD OF 'demurragelaw07.ThirtyTells'. -/
def thirtyTellsUptoCard : Claim7 := { stood := { row := thirtyTellsUptoRow, standIns := [], harness := (true, "20d811dd4b3e0174b217eac3203dd9649e30b76d02fb4286f001344ee5783b37"), looks := false }, kinds := [], alts := [], laidByText := true, laidKinds := [.data], laidTests := true, laidLooks := .later }
def ThirtyTellsUptoCardSaid : Prop := Claim7.holds Tryd.pinned (.plain (OpenSpec.upto thirtyTellsSpec)) thirtyTellsUptoCard

/-- THE SECOND FORM's CARD OF 'demurragelaw07.ThirtyYears'. -/
def thirtyYearsUptoCard : Claim7 := { stood := { row := thirtyYearsUptoRow, standIns := [], harness := (true, "20d811dd4b3e0174b217eac3203dd9649e30b76d02fb4286f001344ee5783b37"), looks := false }, kinds := [], alts := [], laidByText := true, laidKinds := [.data], laidTests := true, laidLooks := .later }
def ThirtyYearsUptoCardSaid : Prop := Claim7.holds Tryd.pinned (.plain (OpenSpec.upto thirtyYearsSpec)) thirtyYearsUptoCard

/-- THE SECOND FORM's CARD OF 'demurragelaw07.ThirtyGrows'. -/
def thirtyGrowsUptoCard : Claim7 := { stood := { row := thirtyGrowsUptoRow, standIns := [], harness := (true, "20d811dd4b3e0174b217eac3203dd9649e30b76d02fb4286f001344ee5783b37"), looks := false }, kinds := [], alts := [], laidByText := true, laidKinds := [.data], laidTests := true, laidLooks := .later }
def ThirtyGrowsUptoCardSaid : Prop := Claim7.holds Tryd.pinned (.plain (OpenSpec.upto thirtyGrowsSpec)) thirtyGrowsUptoCard

/-- THE SECOND FORM's CARD OF 'demurragelaw07.ThirtyAgree'. -/
def thirtyAgreeUptoCard : Claim7 := { stood := { row := thirtyAgreeUptoRow, standIns := [], harness := (true, "20d811dd4b3e0174b217eac3203dd9649e30b76d02fb4286f001344ee5783b37"), looks := false }, kinds := [], alts := [], laidByText := true, laidKinds := [.data], laidTests := true, laidLooks := .later }
def ThirtyAgreeUptoCardSaid : Prop := Claim7.holds Tryd.pinned (.plain (OpenSpec.upto thirtyAgreeSpec)) thirtyAgreeUptoCard

/-- THE SECOND FORM's CARD OF 'demurragelaw07.ThirtyAdds'. -/
def thirtyAddsUptoCard : Claim7 := { stood := { row := thirtyAddsUptoRow, standIns := [], harness := (true, "20d811dd4b3e0174b217eac3203dd9649e30b76d02fb4286f001344ee5783b37"), looks := false }, kinds := [], alts := [], laidByText := true, laidKinds := [.data], laidTests := true, laidLooks := .later }
def ThirtyAddsUptoCardSaid : Prop := Claim7.holds Tryd.pinned (.plain (OpenSpec.upto thirtyAddsSpec)) thirtyAddsUptoCard

/-- THE SECOND FORM's CARD OF 'demurragelaw07.ThirtyEnds'. -/
def thirtyEndsUptoCard : Claim7 := { stood := { row := thirtyEndsUptoRow, standIns := [], harness := (true, "20d811dd4b3e0174b217eac3203dd9649e30b76d02fb4286f001344ee5783b37"), looks := false }, kinds := [], alts := [], laidByText := true, laidKinds := [.data], laidTests := true, laidLooks := .later }
def ThirtyEndsUptoCardSaid : Prop := Claim7.holds Tryd.pinned (.plain (OpenSpec.upto thirtyEndsSpec)) thirtyEndsUptoCard
end Rows
end Go.Proofs.YtjcjchapfiokeaaDoor
