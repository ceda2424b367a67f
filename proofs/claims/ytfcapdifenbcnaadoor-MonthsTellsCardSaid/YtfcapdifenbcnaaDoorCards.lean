/-
  DERIVED. GIVEN WITH THE SEED: THE CARDS: each row of YtfcapdifenbcnaaDoorRows.lean that lists a variable, with what it lists TIED to the program's text (the seventh form; the later family's looks); each row that meets fmt, with fmt's text TOLD by the authors' own Lean function (tested against real Go, not proved from fmt's source: count such statements apart). THE CARD IS WHAT COUNTS. Prove the row's statement (the work); the ties are given (YtfcapdifenbcnaaDoorTie.lean); close each card by the builder's one call (the guide's Derived/Test/ToyasCard.lean, 'card_holds'). Laid BY PROGRAM, IN A SANDBOX (cutbox-door.mjs). By AI agents, Wed Nov 11 2026. No macro, syntax, notation, axiom, sorry.
-/
import Derived.Test.YtfcapdifenbcnaaDoorRows
import GoSem.ClaimSeven
namespace Go.Proofs.YtfcapdifenbcnaaDoor
namespace Rows

/-- THE TIED CARD OF 'demurragelaw11.EasterTells'. -/
def easterTellsCard : Claim7 := { stood := { row := easterTellsRow, standIns := [], harness := (true, "977a21345ca0d6219694972089e9e98f49626ff2f5457037efd2eea7e6d6f678"), looks := false }, kinds := [], alts := [], laidByText := true, laidKinds := [.data], laidTests := true, laidLooks := .later }
def EasterTellsCardSaid : Prop := Claim7.holds Tryd.pinned (.plain (OpenSpec.ofChange easterTellsSpec)) easterTellsCard

/-- THE TIED CARD OF 'demurragelaw11.EasterSunday'. -/
def easterSundayCard : Claim7 := { stood := { row := easterSundayRow, standIns := [], harness := (true, "977a21345ca0d6219694972089e9e98f49626ff2f5457037efd2eea7e6d6f678"), looks := false }, kinds := [], alts := [], laidByText := true, laidKinds := [.data], laidTests := true, laidLooks := .later }
def EasterSundayCardSaid : Prop := Claim7.holds Tryd.pinned (.plain (OpenSpec.ofChange easterSundaySpec)) easterSundayCard

/-- THE TIED CARD OF 'demurragelaw11.EasterRound'. -/
def easterRoundCard : Claim7 := { stood := { row := easterRoundRow, standIns := [], harness := (true, "977a21345ca0d6219694972089e9e98f49626ff2f5457037efd2eea7e6d6f678"), looks := false }, kinds := [], alts := [], laidByText := true, laidKinds := [.data], laidTests := true, laidLooks := .later }
def EasterRoundCardSaid : Prop := Claim7.holds Tryd.pinned (.plain (OpenSpec.ofChange easterRoundSpec)) easterRoundCard

/-- THE TIED CARD OF 'demurragelaw11.EasterApart'. -/
def easterApartCard : Claim7 := { stood := { row := easterApartRow, standIns := [], harness := (true, "977a21345ca0d6219694972089e9e98f49626ff2f5457037efd2eea7e6d6f678"), looks := false }, kinds := [], alts := [], laidByText := true, laidKinds := [.data], laidTests := true, laidLooks := .later }
def EasterApartCardSaid : Prop := Claim7.holds Tryd.pinned (.plain (OpenSpec.ofChange easterApartSpec)) easterApartCard

/-- THE TIED CARD OF 'demurragelaw04.CivilTells'. -/
def civilTellsCard : Claim7 := { stood := { row := civilTellsRow, standIns := [], harness := (true, "977a21345ca0d6219694972089e9e98f49626ff2f5457037efd2eea7e6d6f678"), looks := false }, kinds := [], alts := [], laidByText := true, laidKinds := [.data], laidTests := true, laidLooks := .later }
def CivilTellsCardSaid : Prop := Claim7.holds Tryd.pinned (.plain (OpenSpec.ofChange civilTellsSpec)) civilTellsCard

/-- THE TIED CARD OF 'demurragelaw04.CivilBack'. -/
def civilBackCard : Claim7 := { stood := { row := civilBackRow, standIns := [], harness := (true, "977a21345ca0d6219694972089e9e98f49626ff2f5457037efd2eea7e6d6f678"), looks := false }, kinds := [], alts := [], laidByText := true, laidKinds := [.data], laidTests := true, laidLooks := .later }
def CivilBackCardSaid : Prop := Claim7.holds Tryd.pinned (.plain (OpenSpec.ofChange civilBackSpec)) civilBackCard

/-- THE TIED CARD OF 'demurragelaw04.CivilNext'. -/
def civilNextCard : Claim7 := { stood := { row := civilNextRow, standIns := [], harness := (true, "977a21345ca0d6219694972089e9e98f49626ff2f5457037efd2eea7e6d6f678"), looks := false }, kinds := [], alts := [], laidByText := true, laidKinds := [.data], laidTests := true, laidLooks := .later }
def CivilNextCardSaid : Prop := Claim7.holds Tryd.pinned (.plain (OpenSpec.ofChange civilNextSpec)) civilNextCard

/-- THE TIED CARD OF 'demurragelaw04.CivilOrder'. -/
def civilOrderCard : Claim7 := { stood := { row := civilOrderRow, standIns := [], harness := (true, "977a21345ca0d6219694972089e9e98f49626ff2f5457037efd2eea7e6d6f678"), looks := false }, kinds := [], alts := [], laidByText := true, laidKinds := [.data], laidTests := true, laidLooks := .later }
def CivilOrderCardSaid : Prop := Claim7.holds Tryd.pinned (.plain (OpenSpec.ofChange civilOrderSpec)) civilOrderCard

/-- THE TIED CARD OF 'demurragelaw04.CivilEras'. -/
def civilErasCard : Claim7 := { stood := { row := civilErasRow, standIns := [], harness := (true, "977a21345ca0d6219694972089e9e98f49626ff2f5457037efd2eea7e6d6f678"), looks := false }, kinds := [], alts := [], laidByText := true, laidKinds := [.data], laidTests := true, laidLooks := .later }
def CivilErasCardSaid : Prop := Claim7.holds Tryd.pinned (.plain (OpenSpec.ofChange civilErasSpec)) civilErasCard

/-- THE TIED CARD OF 'demurragelaw04.CivilSpans'. -/
def civilSpansCard : Claim7 := { stood := { row := civilSpansRow, standIns := [], harness := (true, "977a21345ca0d6219694972089e9e98f49626ff2f5457037efd2eea7e6d6f678"), looks := false }, kinds := [], alts := [], laidByText := true, laidKinds := [.data], laidTests := true, laidLooks := .later }
def CivilSpansCardSaid : Prop := Claim7.holds Tryd.pinned (.plain (OpenSpec.ofChange civilSpansSpec)) civilSpansCard

/-- THE TIED CARD OF 'demurragelaw04.CivilMonths'. -/
def civilMonthsCard : Claim7 := { stood := { row := civilMonthsRow, standIns := [], harness := (true, "977a21345ca0d6219694972089e9e98f49626ff2f5457037efd2eea7e6d6f678"), looks := false }, kinds := [], alts := [], laidByText := true, laidKinds := [.data], laidTests := true, laidLooks := .later }
def CivilMonthsCardSaid : Prop := Claim7.holds Tryd.pinned (.plain (OpenSpec.ofChange civilMonthsSpec)) civilMonthsCard

/-- THE TIED CARD OF 'demurragelaw05.MonthsTells'. -/
def monthsTellsCard : Claim7 := { stood := { row := monthsTellsRow, standIns := [], harness := (true, "977a21345ca0d6219694972089e9e98f49626ff2f5457037efd2eea7e6d6f678"), looks := false }, kinds := [], alts := [], laidByText := true, laidKinds := [.data], laidTests := true, laidLooks := .later }
def MonthsTellsCardSaid : Prop := Claim7.holds Tryd.pinned (.plain (OpenSpec.ofChange monthsTellsSpec)) monthsTellsCard

/-- THE SECOND FORM's CARD OF 'demurragelaw11.EasterTells'. -/
def easterTellsUptoCard : Claim7 := { stood := { row := easterTellsUptoRow, standIns := [], harness := (true, "977a21345ca0d6219694972089e9e98f49626ff2f5457037efd2eea7e6d6f678"), looks := false }, kinds := [], alts := [], laidByText := true, laidKinds := [.data], laidTests := true, laidLooks := .later }
def EasterTellsUptoCardSaid : Prop := Claim7.holds Tryd.pinned (.plain (OpenSpec.upto easterTellsSpec)) easterTellsUptoCard

/-- THE SECOND FORM's CARD OF 'demurragelaw11.EasterSunday'. -/
def easterSundayUptoCard : Claim7 := { stood := { row := easterSundayUptoRow, standIns := [], harness := (true, "977a21345ca0d6219694972089e9e98f49626ff2f5457037efd2eea7e6d6f678"), looks := false }, kinds := [], alts := [], laidByText := true, laidKinds := [.data], laidTests := true, laidLooks := .later }
def EasterSundayUptoCardSaid : Prop := Claim7.holds Tryd.pinned (.plain (OpenSpec.upto easterSundaySpec)) easterSundayUptoCard

/-- THE SECOND FORM's CARD OF 'demurragelaw11.EasterRound'. -/
def easterRoundUptoCard : Claim7 := { stood := { row := easterRoundUptoRow, standIns := [], harness := (true, "977a21345ca0d6219694972089e9e98f49626ff2f5457037efd2eea7e6d6f678"), looks := false }, kinds := [], alts := [], laidByText := true, laidKinds := [.data], laidTests := true, laidLooks := .later }
def EasterRoundUptoCardSaid : Prop := Claim7.holds Tryd.pinned (.plain (OpenSpec.upto easterRoundSpec)) easterRoundUptoCard

/-- THE SECOND FORM's CARD OF 'demurragelaw11.EasterApart'. -/
def easterApartUptoCard : Claim7 := { stood := { row := easterApartUptoRow, standIns := [], harness := (true, "977a21345ca0d6219694972089e9e98f49626ff2f5457037efd2eea7e6d6f678"), looks := false }, kinds := [], alts := [], laidByText := true, laidKinds := [.data], laidTests := true, laidLooks := .later }
def EasterApartUptoCardSaid : Prop := Claim7.holds Tryd.pinned (.plain (OpenSpec.upto easterApartSpec)) easterApartUptoCard

/-- THE SECOND FORM's CARD OF 'demurragelaw04.CivilTells'. -/
def civilTellsUptoCard : Claim7 := { stood := { row := civilTellsUptoRow, standIns := [], harness := (true, "977a21345ca0d6219694972089e9e98f49626ff2f5457037efd2eea7e6d6f678"), looks := false }, kinds := [], alts := [], laidByText := true, laidKinds := [.data], laidTests := true, laidLooks := .later }
def CivilTellsUptoCardSaid : Prop := Claim7.holds Tryd.pinned (.plain (OpenSpec.upto civilTellsSpec)) civilTellsUptoCard

/-- THE SECOND FORM's CARD OF 'demurragelaw04.CivilBack'. -/
def civilBackUptoCard : Claim7 := { stood := { row := civilBackUptoRow, standIns := [], harness := (true, "977a21345ca0d6219694972089e9e98f49626ff2f5457037efd2eea7e6d6f678"), looks := false }, kinds := [], alts := [], laidByText := true, laidKinds := [.data], laidTests := true, laidLooks := .later }
def CivilBackUptoCardSaid : Prop := Claim7.holds Tryd.pinned (.plain (OpenSpec.upto civilBackSpec)) civilBackUptoCard

/-- THE SECOND FORM's CARD OF 'demurragelaw04.CivilNext'. -/
def civilNextUptoCard : Claim7 := { stood := { row := civilNextUptoRow, standIns := [], harness := (true, "977a21345ca0d6219694972089e9e98f49626ff2f5457037efd2eea7e6d6f678"), looks := false }, kinds := [], alts := [], laidByText := true, laidKinds := [.data], laidTests := true, laidLooks := .later }
def CivilNextUptoCardSaid : Prop := Claim7.holds Tryd.pinned (.plain (OpenSpec.upto civilNextSpec)) civilNextUptoCard

/-- THE SECOND FORM's CARD OF 'demurragelaw04.CivilOrder'. -/
def civilOrderUptoCard : Claim7 := { stood := { row := civilOrderUptoRow, standIns := [], harness := (true, "977a21345ca0d6219694972089e9e98f49626ff2f5457037efd2eea7e6d6f678"), looks := false }, kinds := [], alts := [], laidByText := true, laidKinds := [.data], laidTests := true, laidLooks := .later }
def CivilOrderUptoCardSaid : Prop := Claim7.holds Tryd.pinned (.plain (OpenSpec.upto civilOrderSpec)) civilOrderUptoCard

/-- THE SECOND FORM's CARD OF 'demurragelaw04.CivilEras'. -/
def civilErasUptoCard : Claim7 := { stood := { row := civilErasUptoRow, standIns := [], harness := (true, "977a21345ca0d6219694972089e9e98f49626ff2f5457037efd2eea7e6d6f678"), looks := false }, kinds := [], alts := [], laidByText := true, laidKinds := [.data], laidTests := true, laidLooks := .later }
def CivilErasUptoCardSaid : Prop := Claim7.holds Tryd.pinned (.plain (OpenSpec.upto civilErasSpec)) civilErasUptoCard

/-- THE SECOND FORM's CARD OF 'demurragelaw04.CivilSpans'. -/
def civilSpansUptoCard : Claim7 := { stood := { row := civilSpansUptoRow, standIns := [], harness := (true, "977a21345ca0d6219694972089e9e98f49626ff2f5457037efd2eea7e6d6f678"), looks := false }, kinds := [], alts := [], laidByText := true, laidKinds := [.data], laidTests := true, laidLooks := .later }
def CivilSpansUptoCardSaid : Prop := Claim7.holds Tryd.pinned (.plain (OpenSpec.upto civilSpansSpec)) civilSpansUptoCard

/-- THE SECOND FORM's CARD OF 'demurragelaw04.CivilMonths'. -/
def civilMonthsUptoCard : Claim7 := { stood := { row := civilMonthsUptoRow, standIns := [], harness := (true, "977a21345ca0d6219694972089e9e98f49626ff2f5457037efd2eea7e6d6f678"), looks := false }, kinds := [], alts := [], laidByText := true, laidKinds := [.data], laidTests := true, laidLooks := .later }
def CivilMonthsUptoCardSaid : Prop := Claim7.holds Tryd.pinned (.plain (OpenSpec.upto civilMonthsSpec)) civilMonthsUptoCard

/-- THE SECOND FORM's CARD OF 'demurragelaw05.MonthsTells'. -/
def monthsTellsUptoCard : Claim7 := { stood := { row := monthsTellsUptoRow, standIns := [], harness := (true, "977a21345ca0d6219694972089e9e98f49626ff2f5457037efd2eea7e6d6f678"), looks := false }, kinds := [], alts := [], laidByText := true, laidKinds := [.data], laidTests := true, laidLooks := .later }
def MonthsTellsUptoCardSaid : Prop := Claim7.holds Tryd.pinned (.plain (OpenSpec.upto monthsTellsSpec)) monthsTellsUptoCard
end Rows
end Go.Proofs.YtfcapdifenbcnaaDoor
