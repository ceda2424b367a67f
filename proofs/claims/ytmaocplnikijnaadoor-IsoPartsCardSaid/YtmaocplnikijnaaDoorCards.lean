/-
  DERIVED. GIVEN WITH THE SEED: THE CARDS: each row of YtmaocplnikijnaaDoorRows.lean that lists a variable, with what it lists TIED to the program's text (the seventh form; the later family's looks); each row that meets fmt, with fmt's text TOLD by the authors' own Lean function (tested against real Go, not proved from fmt's source: count such statements apart). THE CARD IS WHAT COUNTS. Prove the row's statement (the work); the ties are given (YtmaocplnikijnaaDoorTie.lean); close each card by the builder's one call (the guide's Derived/Test/ToyasCard.lean, 'card_holds'). Laid BY PROGRAM, IN A SANDBOX (cutbox-door.mjs). By AI agents, Wed Nov 11 2026. No macro, syntax, notation, axiom, sorry.
-/
import Derived.Test.YtmaocplnikijnaaDoorRows
import GoSem.ClaimSeven
namespace Go.Proofs.YtmaocplnikijnaaDoor
namespace Rows

/-- THE TIED CARD OF 'demurragelaw04.CivilMonths'. -/
def civilMonthsCard : Claim7 := { stood := { row := civilMonthsRow, standIns := [], harness := (true, "87c96fbe356dbdb942930664972198e60e8132b584ff86e9ccfc6f8911bac5f0"), looks := false }, kinds := [], alts := [], laidByText := true, laidKinds := [.data], laidTests := true, laidLooks := .later }
def CivilMonthsCardSaid : Prop := Claim7.holds Tryd.pinned (.plain (OpenSpec.ofChange civilMonthsSpec)) civilMonthsCard

/-- THE TIED CARD OF 'demurragelaw05.MonthsEnds'. -/
def monthsEndsCard : Claim7 := { stood := { row := monthsEndsRow, standIns := [], harness := (true, "87c96fbe356dbdb942930664972198e60e8132b584ff86e9ccfc6f8911bac5f0"), looks := false }, kinds := [], alts := [], laidByText := true, laidKinds := [.data], laidTests := true, laidLooks := .later }
def MonthsEndsCardSaid : Prop := Claim7.holds Tryd.pinned (.plain (OpenSpec.ofChange monthsEndsSpec)) monthsEndsCard

/-- THE TIED CARD OF 'demurragelaw05.MonthsMoves'. -/
def monthsMovesCard : Claim7 := { stood := { row := monthsMovesRow, standIns := [], harness := (true, "87c96fbe356dbdb942930664972198e60e8132b584ff86e9ccfc6f8911bac5f0"), looks := false }, kinds := [], alts := [], laidByText := true, laidKinds := [.data], laidTests := true, laidLooks := .later }
def MonthsMovesCardSaid : Prop := Claim7.holds Tryd.pinned (.plain (OpenSpec.ofChange monthsMovesSpec)) monthsMovesCard

/-- THE TIED CARD OF 'demurragelaw05.MonthsBack'. -/
def monthsBackCard : Claim7 := { stood := { row := monthsBackRow, standIns := [], harness := (true, "87c96fbe356dbdb942930664972198e60e8132b584ff86e9ccfc6f8911bac5f0"), looks := false }, kinds := [], alts := [], laidByText := true, laidKinds := [.data], laidTests := true, laidLooks := .later }
def MonthsBackCardSaid : Prop := Claim7.holds Tryd.pinned (.plain (OpenSpec.ofChange monthsBackSpec)) monthsBackCard

/-- THE TIED CARD OF 'demurragelaw05.MonthsRise'. -/
def monthsRiseCard : Claim7 := { stood := { row := monthsRiseRow, standIns := [], harness := (true, "87c96fbe356dbdb942930664972198e60e8132b584ff86e9ccfc6f8911bac5f0"), looks := false }, kinds := [], alts := [], laidByText := true, laidKinds := [.data], laidTests := true, laidLooks := .later }
def MonthsRiseCardSaid : Prop := Claim7.holds Tryd.pinned (.plain (OpenSpec.ofChange monthsRiseSpec)) monthsRiseCard

/-- THE TIED CARD OF 'demurragelaw05.MonthsEras'. -/
def monthsErasCard : Claim7 := { stood := { row := monthsErasRow, standIns := [], harness := (true, "87c96fbe356dbdb942930664972198e60e8132b584ff86e9ccfc6f8911bac5f0"), looks := false }, kinds := [], alts := [], laidByText := true, laidKinds := [.data], laidTests := true, laidLooks := .later }
def MonthsErasCardSaid : Prop := Claim7.holds Tryd.pinned (.plain (OpenSpec.ofChange monthsErasSpec)) monthsErasCard

/-- THE TIED CARD OF 'demurragelaw06.IsoTells'. -/
def isoTellsCard : Claim7 := { stood := { row := isoTellsRow, standIns := [], harness := (true, "87c96fbe356dbdb942930664972198e60e8132b584ff86e9ccfc6f8911bac5f0"), looks := false }, kinds := [], alts := [], laidByText := true, laidKinds := [.data], laidTests := true, laidLooks := .later }
def IsoTellsCardSaid : Prop := Claim7.holds Tryd.pinned (.plain (OpenSpec.ofChange isoTellsSpec)) isoTellsCard

/-- THE TIED CARD OF 'demurragelaw06.IsoBack'. -/
def isoBackCard : Claim7 := { stood := { row := isoBackRow, standIns := [], harness := (true, "87c96fbe356dbdb942930664972198e60e8132b584ff86e9ccfc6f8911bac5f0"), looks := false }, kinds := [], alts := [], laidByText := true, laidKinds := [.data], laidTests := true, laidLooks := .later }
def IsoBackCardSaid : Prop := Claim7.holds Tryd.pinned (.plain (OpenSpec.ofChange isoBackSpec)) isoBackCard

/-- THE TIED CARD OF 'demurragelaw06.IsoOrder'. -/
def isoOrderCard : Claim7 := { stood := { row := isoOrderRow, standIns := [], harness := (true, "87c96fbe356dbdb942930664972198e60e8132b584ff86e9ccfc6f8911bac5f0"), looks := false }, kinds := [], alts := [], laidByText := true, laidKinds := [.data], laidTests := true, laidLooks := .later }
def IsoOrderCardSaid : Prop := Claim7.holds Tryd.pinned (.plain (OpenSpec.ofChange isoOrderSpec)) isoOrderCard

/-- THE TIED CARD OF 'demurragelaw06.IsoParts'. -/
def isoPartsCard : Claim7 := { stood := { row := isoPartsRow, standIns := [], harness := (true, "87c96fbe356dbdb942930664972198e60e8132b584ff86e9ccfc6f8911bac5f0"), looks := false }, kinds := [], alts := [], laidByText := true, laidKinds := [.data], laidTests := true, laidLooks := .later }
def IsoPartsCardSaid : Prop := Claim7.holds Tryd.pinned (.plain (OpenSpec.ofChange isoPartsSpec)) isoPartsCard

/-- THE TIED CARD OF 'demurragelaw06.IsoNext'. -/
def isoNextCard : Claim7 := { stood := { row := isoNextRow, standIns := [], harness := (true, "87c96fbe356dbdb942930664972198e60e8132b584ff86e9ccfc6f8911bac5f0"), looks := false }, kinds := [], alts := [], laidByText := true, laidKinds := [.data], laidTests := true, laidLooks := .later }
def IsoNextCardSaid : Prop := Claim7.holds Tryd.pinned (.plain (OpenSpec.ofChange isoNextSpec)) isoNextCard

/-- THE SECOND FORM's CARD OF 'demurragelaw04.CivilMonths'. -/
def civilMonthsUptoCard : Claim7 := { stood := { row := civilMonthsUptoRow, standIns := [], harness := (true, "87c96fbe356dbdb942930664972198e60e8132b584ff86e9ccfc6f8911bac5f0"), looks := false }, kinds := [], alts := [], laidByText := true, laidKinds := [.data], laidTests := true, laidLooks := .later }
def CivilMonthsUptoCardSaid : Prop := Claim7.holds Tryd.pinned (.plain (OpenSpec.upto civilMonthsSpec)) civilMonthsUptoCard

/-- THE SECOND FORM's CARD OF 'demurragelaw05.MonthsEnds'. -/
def monthsEndsUptoCard : Claim7 := { stood := { row := monthsEndsUptoRow, standIns := [], harness := (true, "87c96fbe356dbdb942930664972198e60e8132b584ff86e9ccfc6f8911bac5f0"), looks := false }, kinds := [], alts := [], laidByText := true, laidKinds := [.data], laidTests := true, laidLooks := .later }
def MonthsEndsUptoCardSaid : Prop := Claim7.holds Tryd.pinned (.plain (OpenSpec.upto monthsEndsSpec)) monthsEndsUptoCard

/-- THE SECOND FORM's CARD OF 'demurragelaw05.MonthsMoves'. -/
def monthsMovesUptoCard : Claim7 := { stood := { row := monthsMovesUptoRow, standIns := [], harness := (true, "87c96fbe356dbdb942930664972198e60e8132b584ff86e9ccfc6f8911bac5f0"), looks := false }, kinds := [], alts := [], laidByText := true, laidKinds := [.data], laidTests := true, laidLooks := .later }
def MonthsMovesUptoCardSaid : Prop := Claim7.holds Tryd.pinned (.plain (OpenSpec.upto monthsMovesSpec)) monthsMovesUptoCard

/-- THE SECOND FORM's CARD OF 'demurragelaw05.MonthsBack'. -/
def monthsBackUptoCard : Claim7 := { stood := { row := monthsBackUptoRow, standIns := [], harness := (true, "87c96fbe356dbdb942930664972198e60e8132b584ff86e9ccfc6f8911bac5f0"), looks := false }, kinds := [], alts := [], laidByText := true, laidKinds := [.data], laidTests := true, laidLooks := .later }
def MonthsBackUptoCardSaid : Prop := Claim7.holds Tryd.pinned (.plain (OpenSpec.upto monthsBackSpec)) monthsBackUptoCard

/-- THE SECOND FORM's CARD OF 'demurragelaw05.MonthsRise'. -/
def monthsRiseUptoCard : Claim7 := { stood := { row := monthsRiseUptoRow, standIns := [], harness := (true, "87c96fbe356dbdb942930664972198e60e8132b584ff86e9ccfc6f8911bac5f0"), looks := false }, kinds := [], alts := [], laidByText := true, laidKinds := [.data], laidTests := true, laidLooks := .later }
def MonthsRiseUptoCardSaid : Prop := Claim7.holds Tryd.pinned (.plain (OpenSpec.upto monthsRiseSpec)) monthsRiseUptoCard

/-- THE SECOND FORM's CARD OF 'demurragelaw05.MonthsEras'. -/
def monthsErasUptoCard : Claim7 := { stood := { row := monthsErasUptoRow, standIns := [], harness := (true, "87c96fbe356dbdb942930664972198e60e8132b584ff86e9ccfc6f8911bac5f0"), looks := false }, kinds := [], alts := [], laidByText := true, laidKinds := [.data], laidTests := true, laidLooks := .later }
def MonthsErasUptoCardSaid : Prop := Claim7.holds Tryd.pinned (.plain (OpenSpec.upto monthsErasSpec)) monthsErasUptoCard

/-- THE SECOND FORM's CARD OF 'demurragelaw06.IsoTells'. -/
def isoTellsUptoCard : Claim7 := { stood := { row := isoTellsUptoRow, standIns := [], harness := (true, "87c96fbe356dbdb942930664972198e60e8132b584ff86e9ccfc6f8911bac5f0"), looks := false }, kinds := [], alts := [], laidByText := true, laidKinds := [.data], laidTests := true, laidLooks := .later }
def IsoTellsUptoCardSaid : Prop := Claim7.holds Tryd.pinned (.plain (OpenSpec.upto isoTellsSpec)) isoTellsUptoCard

/-- THE SECOND FORM's CARD OF 'demurragelaw06.IsoBack'. -/
def isoBackUptoCard : Claim7 := { stood := { row := isoBackUptoRow, standIns := [], harness := (true, "87c96fbe356dbdb942930664972198e60e8132b584ff86e9ccfc6f8911bac5f0"), looks := false }, kinds := [], alts := [], laidByText := true, laidKinds := [.data], laidTests := true, laidLooks := .later }
def IsoBackUptoCardSaid : Prop := Claim7.holds Tryd.pinned (.plain (OpenSpec.upto isoBackSpec)) isoBackUptoCard

/-- THE SECOND FORM's CARD OF 'demurragelaw06.IsoOrder'. -/
def isoOrderUptoCard : Claim7 := { stood := { row := isoOrderUptoRow, standIns := [], harness := (true, "87c96fbe356dbdb942930664972198e60e8132b584ff86e9ccfc6f8911bac5f0"), looks := false }, kinds := [], alts := [], laidByText := true, laidKinds := [.data], laidTests := true, laidLooks := .later }
def IsoOrderUptoCardSaid : Prop := Claim7.holds Tryd.pinned (.plain (OpenSpec.upto isoOrderSpec)) isoOrderUptoCard

/-- THE SECOND FORM's CARD OF 'demurragelaw06.IsoParts'. -/
def isoPartsUptoCard : Claim7 := { stood := { row := isoPartsUptoRow, standIns := [], harness := (true, "87c96fbe356dbdb942930664972198e60e8132b584ff86e9ccfc6f8911bac5f0"), looks := false }, kinds := [], alts := [], laidByText := true, laidKinds := [.data], laidTests := true, laidLooks := .later }
def IsoPartsUptoCardSaid : Prop := Claim7.holds Tryd.pinned (.plain (OpenSpec.upto isoPartsSpec)) isoPartsUptoCard

/-- THE SECOND FORM's CARD OF 'demurragelaw06.IsoNext'. -/
def isoNextUptoCard : Claim7 := { stood := { row := isoNextUptoRow, standIns := [], harness := (true, "87c96fbe356dbdb942930664972198e60e8132b584ff86e9ccfc6f8911bac5f0"), looks := false }, kinds := [], alts := [], laidByText := true, laidKinds := [.data], laidTests := true, laidLooks := .later }
def IsoNextUptoCardSaid : Prop := Claim7.holds Tryd.pinned (.plain (OpenSpec.upto isoNextSpec)) isoNextUptoCard
end Rows
end Go.Proofs.YtmaocplnikijnaaDoor
