/-
  NARROWER THAN 'FOR EVERY INPUT', by the rows' own cells (each row's printed sentence says how): CivilMonths: laid · MonthsEnds: laid · MonthsMoves: laid · MonthsBack: laid · MonthsRise: laid · MonthsEras: laid · IsoTells: laid · IsoBack: laid · IsoOrder: laid · IsoParts: laid · IsoNext: laid.
  DERIVED. THE GIVEN ROWS OF THIS SEAT. 11 by the template 'for every input the law returns true; each argument reads behind the call as it read before'; 0 by the template 'total and deterministic' (their statements: YtmaocplnikijnaaDoorTotals.lean).
  GIVEN WITH THE SEED: the statements are not yours to turn. If you find one false, say at which input.
  Laid BY PROGRAM, IN A SANDBOX (cutbox-rows.mjs): the forced cells as the released guide's own fill.sh prints them over the translation 4e281be51580b20c… (all of the seat's roots in one cut). By AI agents, Wed Nov 11 2026. No macro, syntax, notation, axiom, sorry.
-/
import Derived.Test.YtmaocplnikijnaaDoorChecked
import GoSem.Claim
import GoSem.ClaimJoined
import GoSem.ClaimMapViews
import Derived.JoinedTies
import Derived.KernelRfl
namespace Go.Proofs.YtmaocplnikijnaaDoor
/- THE CELL 'sum', in the pinned program and in every row, IS THE sha256 OF THE DUMP (.gsa) THAT YtmaocplnikijnaaDoorProg.lean LOADS. Nothing in Lean hashes anything: it is a label: what it is worth is what the hold of that sum in a sandbox is worth. -/
noncomputable def Tryd.pinned : Pinned := { name := "ytmaocplnikijnaadoor", sum := "4e281be51580b20c566e4b7df2ed49cdc995b36ff6e65bb11fb6f6ec726c9da1", checked := Tryd.checked }
namespace Rows
def none {H : Type} : Left H := { results := [], args := [] }

/- WHAT THE LISTED PACKAGE-LEVEL VARIABLES READ AS WHEN THE CALL BEGINS. Each datum BY PROGRAM (the guide's laid-datum.mjs) off the statement by which the dump's own 'gosem.cut.vars' lays the variable. In a bare row this is a premise. The card (YtmaocplnikijnaaDoorCards.lean) ties it to the program's text. -/
def laid_demurrage_civil_lengths {H : Type} : DataW H := .agg [.lit (.int .i64 0), .lit (.int .i64 31), .lit (.int .i64 28), .lit (.int .i64 31), .lit (.int .i64 30), .lit (.int .i64 31), .lit (.int .i64 30), .lit (.int .i64 31), .lit (.int .i64 31), .lit (.int .i64 30), .lit (.int .i64 31), .lit (.int .i64 30), .lit (.int .i64 31)]

/-- 'demurragelaw04.CivilMonths': WHATEVER THE INPUT: true; the input reads as it did. -/
def civilMonthsSpec : ChangeSpec := { name := "civilMonths", fn := fun _ => fun
  | [d1, d2, d3] => { results := [.lit (.bool true)], args := [d1, d2, d3] }
  | _ => none }
def civilMonthsRow : OpenClaim := { program := "ytmaocplnikijnaadoor", sum := "4e281be51580b20c566e4b7df2ed49cdc995b36ff6e65bb11fb6f6ec726c9da1", func := "demurrage/demurragelaw04.CivilMonths", spec := "civilMonths", named := ["demurrage/civil.lengths"], apart := false, laid := [("demurrage/civil.lengths", laid_demurrage_civil_lengths)] }
def CivilMonthsSaid : Prop := civilMonthsRow.holds Tryd.pinned (OpenSpec.ofChange civilMonthsSpec)

/-- ITS FALSE NEIGHBOUR: 'it returns false'. Refute it at one input. -/
def civilMonthsWrong : ChangeSpec := { name := "civilMonths", fn := fun _ => fun
  | [d1, d2, d3] => { results := [.lit (.bool false)], args := [d1, d2, d3] }
  | _ => none }
def CivilMonthsWrongFalsely : Prop := civilMonthsRow.holds Tryd.pinned (OpenSpec.ofChange civilMonthsWrong)

/-- 'demurragelaw05.MonthsEnds': WHATEVER THE INPUT: true; the input reads as it did. -/
def monthsEndsSpec : ChangeSpec := { name := "monthsEnds", fn := fun _ => fun
  | [d] => { results := [.lit (.bool true)], args := [d] }
  | _ => none }
def monthsEndsRow : OpenClaim := { program := "ytmaocplnikijnaadoor", sum := "4e281be51580b20c566e4b7df2ed49cdc995b36ff6e65bb11fb6f6ec726c9da1", func := "demurrage/demurragelaw05.MonthsEnds", spec := "monthsEnds", unfollowed := true, recurses := true, named := ["demurrage/civil.lengths"], apart := false, laid := [("demurrage/civil.lengths", laid_demurrage_civil_lengths)] }
def MonthsEndsSaid : Prop := monthsEndsRow.holds Tryd.pinned (OpenSpec.ofChange monthsEndsSpec)

/-- ITS FALSE NEIGHBOUR: 'it returns false'. Refute it at one input. -/
def monthsEndsWrong : ChangeSpec := { name := "monthsEnds", fn := fun _ => fun
  | [d] => { results := [.lit (.bool false)], args := [d] }
  | _ => none }
def MonthsEndsWrongFalsely : Prop := monthsEndsRow.holds Tryd.pinned (OpenSpec.ofChange monthsEndsWrong)

/-- 'demurragelaw05.MonthsMoves': WHATEVER THE INPUT: true; the input reads as it did. -/
def monthsMovesSpec : ChangeSpec := { name := "monthsMoves", fn := fun _ => fun
  | [d1, d2, d3] => { results := [.lit (.bool true)], args := [d1, d2, d3] }
  | _ => none }
def monthsMovesRow : OpenClaim := { program := "ytmaocplnikijnaadoor", sum := "4e281be51580b20c566e4b7df2ed49cdc995b36ff6e65bb11fb6f6ec726c9da1", func := "demurrage/demurragelaw05.MonthsMoves", spec := "monthsMoves", unfollowed := true, recurses := true, named := ["demurrage/civil.lengths"], apart := false, laid := [("demurrage/civil.lengths", laid_demurrage_civil_lengths)] }
def MonthsMovesSaid : Prop := monthsMovesRow.holds Tryd.pinned (OpenSpec.ofChange monthsMovesSpec)

/-- ITS FALSE NEIGHBOUR: 'it returns false'. Refute it at one input. -/
def monthsMovesWrong : ChangeSpec := { name := "monthsMoves", fn := fun _ => fun
  | [d1, d2, d3] => { results := [.lit (.bool false)], args := [d1, d2, d3] }
  | _ => none }
def MonthsMovesWrongFalsely : Prop := monthsMovesRow.holds Tryd.pinned (OpenSpec.ofChange monthsMovesWrong)

/-- 'demurragelaw05.MonthsBack': WHATEVER THE INPUT: true; the input reads as it did. -/
def monthsBackSpec : ChangeSpec := { name := "monthsBack", fn := fun _ => fun
  | [d1, d2, d3] => { results := [.lit (.bool true)], args := [d1, d2, d3] }
  | _ => none }
def monthsBackRow : OpenClaim := { program := "ytmaocplnikijnaadoor", sum := "4e281be51580b20c566e4b7df2ed49cdc995b36ff6e65bb11fb6f6ec726c9da1", func := "demurrage/demurragelaw05.MonthsBack", spec := "monthsBack", unfollowed := true, recurses := true, named := ["demurrage/civil.lengths"], apart := false, laid := [("demurrage/civil.lengths", laid_demurrage_civil_lengths)] }
def MonthsBackSaid : Prop := monthsBackRow.holds Tryd.pinned (OpenSpec.ofChange monthsBackSpec)

/-- ITS FALSE NEIGHBOUR: 'it returns false'. Refute it at one input. -/
def monthsBackWrong : ChangeSpec := { name := "monthsBack", fn := fun _ => fun
  | [d1, d2, d3] => { results := [.lit (.bool false)], args := [d1, d2, d3] }
  | _ => none }
def MonthsBackWrongFalsely : Prop := monthsBackRow.holds Tryd.pinned (OpenSpec.ofChange monthsBackWrong)

/-- 'demurragelaw05.MonthsRise': WHATEVER THE INPUT: true; the input reads as it did. -/
def monthsRiseSpec : ChangeSpec := { name := "monthsRise", fn := fun _ => fun
  | [d] => { results := [.lit (.bool true)], args := [d] }
  | _ => none }
def monthsRiseRow : OpenClaim := { program := "ytmaocplnikijnaadoor", sum := "4e281be51580b20c566e4b7df2ed49cdc995b36ff6e65bb11fb6f6ec726c9da1", func := "demurrage/demurragelaw05.MonthsRise", spec := "monthsRise", unfollowed := true, recurses := true, named := ["demurrage/civil.lengths"], apart := false, laid := [("demurrage/civil.lengths", laid_demurrage_civil_lengths)] }
def MonthsRiseSaid : Prop := monthsRiseRow.holds Tryd.pinned (OpenSpec.ofChange monthsRiseSpec)

/-- ITS FALSE NEIGHBOUR: 'it returns false'. Refute it at one input. -/
def monthsRiseWrong : ChangeSpec := { name := "monthsRise", fn := fun _ => fun
  | [d] => { results := [.lit (.bool false)], args := [d] }
  | _ => none }
def MonthsRiseWrongFalsely : Prop := monthsRiseRow.holds Tryd.pinned (OpenSpec.ofChange monthsRiseWrong)

/-- 'demurragelaw05.MonthsEras': WHATEVER THE INPUT: true; the input reads as it did. -/
def monthsErasSpec : ChangeSpec := { name := "monthsEras", fn := fun _ => fun
  | [d1, d2] => { results := [.lit (.bool true)], args := [d1, d2] }
  | _ => none }
def monthsErasRow : OpenClaim := { program := "ytmaocplnikijnaadoor", sum := "4e281be51580b20c566e4b7df2ed49cdc995b36ff6e65bb11fb6f6ec726c9da1", func := "demurrage/demurragelaw05.MonthsEras", spec := "monthsEras", unfollowed := true, recurses := true, named := ["demurrage/civil.lengths"], apart := false, laid := [("demurrage/civil.lengths", laid_demurrage_civil_lengths)] }
def MonthsErasSaid : Prop := monthsErasRow.holds Tryd.pinned (OpenSpec.ofChange monthsErasSpec)

/-- ITS FALSE NEIGHBOUR: 'it returns false'. Refute it at one input. -/
def monthsErasWrong : ChangeSpec := { name := "monthsEras", fn := fun _ => fun
  | [d1, d2] => { results := [.lit (.bool false)], args := [d1, d2] }
  | _ => none }
def MonthsErasWrongFalsely : Prop := monthsErasRow.holds Tryd.pinned (OpenSpec.ofChange monthsErasWrong)

/-- 'demurragelaw06.IsoTells': WHATEVER THE INPUT: true; the input reads as it did. -/
def isoTellsSpec : ChangeSpec := { name := "isoTells", fn := fun _ => fun
  | [d1, d2] => { results := [.lit (.bool true)], args := [d1, d2] }
  | _ => none }
def isoTellsRow : OpenClaim := { program := "ytmaocplnikijnaadoor", sum := "4e281be51580b20c566e4b7df2ed49cdc995b36ff6e65bb11fb6f6ec726c9da1", func := "demurrage/demurragelaw06.IsoTells", spec := "isoTells", inPlace := ["internal/abi.NoEscape", "internal/bytealg.MakeNoZero"], named := ["demurrage/civil.lengths"], apart := false, laid := [("demurrage/civil.lengths", laid_demurrage_civil_lengths)] }
def IsoTellsSaid : Prop := isoTellsRow.holds Tryd.pinned (OpenSpec.ofChange isoTellsSpec)

/-- ITS FALSE NEIGHBOUR: 'it returns false'. Refute it at one input. -/
def isoTellsWrong : ChangeSpec := { name := "isoTells", fn := fun _ => fun
  | [d1, d2] => { results := [.lit (.bool false)], args := [d1, d2] }
  | _ => none }
def IsoTellsWrongFalsely : Prop := isoTellsRow.holds Tryd.pinned (OpenSpec.ofChange isoTellsWrong)

/-- 'demurragelaw06.IsoBack': WHATEVER THE INPUT: true; the input reads as it did. -/
def isoBackSpec : ChangeSpec := { name := "isoBack", fn := fun _ => fun
  | [d1, d2] => { results := [.lit (.bool true)], args := [d1, d2] }
  | _ => none }
def isoBackRow : OpenClaim := { program := "ytmaocplnikijnaadoor", sum := "4e281be51580b20c566e4b7df2ed49cdc995b36ff6e65bb11fb6f6ec726c9da1", func := "demurrage/demurragelaw06.IsoBack", spec := "isoBack", inPlace := ["internal/abi.NoEscape", "internal/bytealg.MakeNoZero"], named := ["demurrage/civil.lengths"], apart := false, laid := [("demurrage/civil.lengths", laid_demurrage_civil_lengths)] }
def IsoBackSaid : Prop := isoBackRow.holds Tryd.pinned (OpenSpec.ofChange isoBackSpec)

/-- ITS FALSE NEIGHBOUR: 'it returns false'. Refute it at one input. -/
def isoBackWrong : ChangeSpec := { name := "isoBack", fn := fun _ => fun
  | [d1, d2] => { results := [.lit (.bool false)], args := [d1, d2] }
  | _ => none }
def IsoBackWrongFalsely : Prop := isoBackRow.holds Tryd.pinned (OpenSpec.ofChange isoBackWrong)

/-- 'demurragelaw06.IsoOrder': WHATEVER THE INPUT: true; the input reads as it did. -/
def isoOrderSpec : ChangeSpec := { name := "isoOrder", fn := fun _ => fun
  | [d1, d2] => { results := [.lit (.bool true)], args := [d1, d2] }
  | _ => none }
def isoOrderRow : OpenClaim := { program := "ytmaocplnikijnaadoor", sum := "4e281be51580b20c566e4b7df2ed49cdc995b36ff6e65bb11fb6f6ec726c9da1", func := "demurrage/demurragelaw06.IsoOrder", spec := "isoOrder", inPlace := ["internal/abi.NoEscape", "internal/bytealg.MakeNoZero"], named := ["demurrage/civil.lengths"], apart := false, laid := [("demurrage/civil.lengths", laid_demurrage_civil_lengths)] }
def IsoOrderSaid : Prop := isoOrderRow.holds Tryd.pinned (OpenSpec.ofChange isoOrderSpec)

/-- ITS FALSE NEIGHBOUR: 'it returns false'. Refute it at one input. -/
def isoOrderWrong : ChangeSpec := { name := "isoOrder", fn := fun _ => fun
  | [d1, d2] => { results := [.lit (.bool false)], args := [d1, d2] }
  | _ => none }
def IsoOrderWrongFalsely : Prop := isoOrderRow.holds Tryd.pinned (OpenSpec.ofChange isoOrderWrong)

/-- 'demurragelaw06.IsoParts': WHATEVER THE INPUT: true; the input reads as it did. -/
def isoPartsSpec : ChangeSpec := { name := "isoParts", fn := fun _ => fun
  | [d] => { results := [.lit (.bool true)], args := [d] }
  | _ => none }
def isoPartsRow : OpenClaim := { program := "ytmaocplnikijnaadoor", sum := "4e281be51580b20c566e4b7df2ed49cdc995b36ff6e65bb11fb6f6ec726c9da1", func := "demurrage/demurragelaw06.IsoParts", spec := "isoParts", inPlace := ["internal/abi.NoEscape", "internal/bytealg.MakeNoZero"], named := ["demurrage/civil.lengths"], apart := false, laid := [("demurrage/civil.lengths", laid_demurrage_civil_lengths)] }
def IsoPartsSaid : Prop := isoPartsRow.holds Tryd.pinned (OpenSpec.ofChange isoPartsSpec)

/-- ITS FALSE NEIGHBOUR: 'it returns false'. Refute it at one input. -/
def isoPartsWrong : ChangeSpec := { name := "isoParts", fn := fun _ => fun
  | [d] => { results := [.lit (.bool false)], args := [d] }
  | _ => none }
def IsoPartsWrongFalsely : Prop := isoPartsRow.holds Tryd.pinned (OpenSpec.ofChange isoPartsWrong)

/-- 'demurragelaw06.IsoNext': WHATEVER THE INPUT: true; the input reads as it did. -/
def isoNextSpec : ChangeSpec := { name := "isoNext", fn := fun _ => fun
  | [d] => { results := [.lit (.bool true)], args := [d] }
  | _ => none }
def isoNextRow : OpenClaim := { program := "ytmaocplnikijnaadoor", sum := "4e281be51580b20c566e4b7df2ed49cdc995b36ff6e65bb11fb6f6ec726c9da1", func := "demurrage/demurragelaw06.IsoNext", spec := "isoNext", inPlace := ["internal/abi.NoEscape", "internal/bytealg.MakeNoZero"], named := ["demurrage/civil.lengths"], apart := false, laid := [("demurrage/civil.lengths", laid_demurrage_civil_lengths)] }
def IsoNextSaid : Prop := isoNextRow.holds Tryd.pinned (OpenSpec.ofChange isoNextSpec)

/-- ITS FALSE NEIGHBOUR: 'it returns false'. Refute it at one input. -/
def isoNextWrong : ChangeSpec := { name := "isoNext", fn := fun _ => fun
  | [d] => { results := [.lit (.bool false)], args := [d] }
  | _ => none }
def IsoNextWrongFalsely : Prop := isoNextRow.holds Tryd.pinned (OpenSpec.ofChange isoNextWrong)

/- THE SECOND FORM. 'bulk': how many values and letters a reading holds, each counted each time it is reached (what is shared counts as often as it is met; a slice's spare places count too). A statement '..UptoSaid' is the law's where the arguments, and the package variables that the reading takes, are together of bulk at most 1048576: NARROWER than '..Said'. Prove '..Said' where nothing that the law and all that it calls make is longer than what came in: it says more and counts as full. Else prove '..UptoSaid'. A law counts once. -/
mutual
def uptoBulk {H : Type} : DataW H → Nat
  | .lit (.string bytes) => bytes.length + 1
  | .lit _ => 1
  | .nil => 1
  | .ptr d => uptoBulk d + 1
  | .slice elems spare => uptoBulkAll elems + uptoBulkAll spare + 1
  | .agg parts => uptoBulkAll parts + 1
  | .iface _ d => uptoBulk d + 1
  | .map entries => uptoBulkEntries entries + 1
  | .held _ => 1
def uptoBulkAll {H : Type} : List (DataW H) → Nat
  | [] => 0
  | d :: r => uptoBulk d + uptoBulkAll r
def uptoBulkEntries {H : Type} : List (Lit × DataW H) → Nat
  | [] => 0
  | x :: r => uptoBulkEntry x + uptoBulkEntries r
def uptoBulkEntry {H : Type} : Lit × DataW H → Nat
  | (.string bytes, d) => bytes.length + uptoBulk d + 1
  | (_, d) => uptoBulk d + 1
 end
def uptoSmall : (H : Type) → List (DataW H) → Bool := fun _ ds => decide (uptoBulkAll ds ≤ 1048576)
def OpenSpec.upto (s : _root_.Go.ChangeSpec) : _root_.Go.OpenSpec := { _root_.Go.OpenSpec.ofChange s with cond := some uptoSmall }

/-- 'demurragelaw04.CivilMonths', WHERE WHAT IT READS IS OF BULK AT MOST 1048576: true; the input reads as it did. -/
def civilMonthsUptoRow : OpenClaim := { program := "ytmaocplnikijnaadoor", sum := "4e281be51580b20c566e4b7df2ed49cdc995b36ff6e65bb11fb6f6ec726c9da1", func := "demurrage/demurragelaw04.CivilMonths", spec := "civilMonths", named := ["demurrage/civil.lengths"], apart := false, laid := [("demurrage/civil.lengths", laid_demurrage_civil_lengths)], narrowed := true }
def CivilMonthsUptoSaid : Prop := civilMonthsUptoRow.holds Tryd.pinned (OpenSpec.upto civilMonthsSpec)

/-- 'demurragelaw05.MonthsEnds', WHERE WHAT IT READS IS OF BULK AT MOST 1048576: true; the input reads as it did. -/
def monthsEndsUptoRow : OpenClaim := { program := "ytmaocplnikijnaadoor", sum := "4e281be51580b20c566e4b7df2ed49cdc995b36ff6e65bb11fb6f6ec726c9da1", func := "demurrage/demurragelaw05.MonthsEnds", spec := "monthsEnds", unfollowed := true, recurses := true, named := ["demurrage/civil.lengths"], apart := false, laid := [("demurrage/civil.lengths", laid_demurrage_civil_lengths)], narrowed := true }
def MonthsEndsUptoSaid : Prop := monthsEndsUptoRow.holds Tryd.pinned (OpenSpec.upto monthsEndsSpec)

/-- 'demurragelaw05.MonthsMoves', WHERE WHAT IT READS IS OF BULK AT MOST 1048576: true; the input reads as it did. -/
def monthsMovesUptoRow : OpenClaim := { program := "ytmaocplnikijnaadoor", sum := "4e281be51580b20c566e4b7df2ed49cdc995b36ff6e65bb11fb6f6ec726c9da1", func := "demurrage/demurragelaw05.MonthsMoves", spec := "monthsMoves", unfollowed := true, recurses := true, named := ["demurrage/civil.lengths"], apart := false, laid := [("demurrage/civil.lengths", laid_demurrage_civil_lengths)], narrowed := true }
def MonthsMovesUptoSaid : Prop := monthsMovesUptoRow.holds Tryd.pinned (OpenSpec.upto monthsMovesSpec)

/-- 'demurragelaw05.MonthsBack', WHERE WHAT IT READS IS OF BULK AT MOST 1048576: true; the input reads as it did. -/
def monthsBackUptoRow : OpenClaim := { program := "ytmaocplnikijnaadoor", sum := "4e281be51580b20c566e4b7df2ed49cdc995b36ff6e65bb11fb6f6ec726c9da1", func := "demurrage/demurragelaw05.MonthsBack", spec := "monthsBack", unfollowed := true, recurses := true, named := ["demurrage/civil.lengths"], apart := false, laid := [("demurrage/civil.lengths", laid_demurrage_civil_lengths)], narrowed := true }
def MonthsBackUptoSaid : Prop := monthsBackUptoRow.holds Tryd.pinned (OpenSpec.upto monthsBackSpec)

/-- 'demurragelaw05.MonthsRise', WHERE WHAT IT READS IS OF BULK AT MOST 1048576: true; the input reads as it did. -/
def monthsRiseUptoRow : OpenClaim := { program := "ytmaocplnikijnaadoor", sum := "4e281be51580b20c566e4b7df2ed49cdc995b36ff6e65bb11fb6f6ec726c9da1", func := "demurrage/demurragelaw05.MonthsRise", spec := "monthsRise", unfollowed := true, recurses := true, named := ["demurrage/civil.lengths"], apart := false, laid := [("demurrage/civil.lengths", laid_demurrage_civil_lengths)], narrowed := true }
def MonthsRiseUptoSaid : Prop := monthsRiseUptoRow.holds Tryd.pinned (OpenSpec.upto monthsRiseSpec)

/-- 'demurragelaw05.MonthsEras', WHERE WHAT IT READS IS OF BULK AT MOST 1048576: true; the input reads as it did. -/
def monthsErasUptoRow : OpenClaim := { program := "ytmaocplnikijnaadoor", sum := "4e281be51580b20c566e4b7df2ed49cdc995b36ff6e65bb11fb6f6ec726c9da1", func := "demurrage/demurragelaw05.MonthsEras", spec := "monthsEras", unfollowed := true, recurses := true, named := ["demurrage/civil.lengths"], apart := false, laid := [("demurrage/civil.lengths", laid_demurrage_civil_lengths)], narrowed := true }
def MonthsErasUptoSaid : Prop := monthsErasUptoRow.holds Tryd.pinned (OpenSpec.upto monthsErasSpec)

/-- 'demurragelaw06.IsoTells', WHERE WHAT IT READS IS OF BULK AT MOST 1048576: true; the input reads as it did. -/
def isoTellsUptoRow : OpenClaim := { program := "ytmaocplnikijnaadoor", sum := "4e281be51580b20c566e4b7df2ed49cdc995b36ff6e65bb11fb6f6ec726c9da1", func := "demurrage/demurragelaw06.IsoTells", spec := "isoTells", inPlace := ["internal/abi.NoEscape", "internal/bytealg.MakeNoZero"], named := ["demurrage/civil.lengths"], apart := false, laid := [("demurrage/civil.lengths", laid_demurrage_civil_lengths)], narrowed := true }
def IsoTellsUptoSaid : Prop := isoTellsUptoRow.holds Tryd.pinned (OpenSpec.upto isoTellsSpec)

/-- 'demurragelaw06.IsoBack', WHERE WHAT IT READS IS OF BULK AT MOST 1048576: true; the input reads as it did. -/
def isoBackUptoRow : OpenClaim := { program := "ytmaocplnikijnaadoor", sum := "4e281be51580b20c566e4b7df2ed49cdc995b36ff6e65bb11fb6f6ec726c9da1", func := "demurrage/demurragelaw06.IsoBack", spec := "isoBack", inPlace := ["internal/abi.NoEscape", "internal/bytealg.MakeNoZero"], named := ["demurrage/civil.lengths"], apart := false, laid := [("demurrage/civil.lengths", laid_demurrage_civil_lengths)], narrowed := true }
def IsoBackUptoSaid : Prop := isoBackUptoRow.holds Tryd.pinned (OpenSpec.upto isoBackSpec)

/-- 'demurragelaw06.IsoOrder', WHERE WHAT IT READS IS OF BULK AT MOST 1048576: true; the input reads as it did. -/
def isoOrderUptoRow : OpenClaim := { program := "ytmaocplnikijnaadoor", sum := "4e281be51580b20c566e4b7df2ed49cdc995b36ff6e65bb11fb6f6ec726c9da1", func := "demurrage/demurragelaw06.IsoOrder", spec := "isoOrder", inPlace := ["internal/abi.NoEscape", "internal/bytealg.MakeNoZero"], named := ["demurrage/civil.lengths"], apart := false, laid := [("demurrage/civil.lengths", laid_demurrage_civil_lengths)], narrowed := true }
def IsoOrderUptoSaid : Prop := isoOrderUptoRow.holds Tryd.pinned (OpenSpec.upto isoOrderSpec)

/-- 'demurragelaw06.IsoParts', WHERE WHAT IT READS IS OF BULK AT MOST 1048576: true; the input reads as it did. -/
def isoPartsUptoRow : OpenClaim := { program := "ytmaocplnikijnaadoor", sum := "4e281be51580b20c566e4b7df2ed49cdc995b36ff6e65bb11fb6f6ec726c9da1", func := "demurrage/demurragelaw06.IsoParts", spec := "isoParts", inPlace := ["internal/abi.NoEscape", "internal/bytealg.MakeNoZero"], named := ["demurrage/civil.lengths"], apart := false, laid := [("demurrage/civil.lengths", laid_demurrage_civil_lengths)], narrowed := true }
def IsoPartsUptoSaid : Prop := isoPartsUptoRow.holds Tryd.pinned (OpenSpec.upto isoPartsSpec)

/-- 'demurragelaw06.IsoNext', WHERE WHAT IT READS IS OF BULK AT MOST 1048576: true; the input reads as it did. -/
def isoNextUptoRow : OpenClaim := { program := "ytmaocplnikijnaadoor", sum := "4e281be51580b20c566e4b7df2ed49cdc995b36ff6e65bb11fb6f6ec726c9da1", func := "demurrage/demurragelaw06.IsoNext", spec := "isoNext", inPlace := ["internal/abi.NoEscape", "internal/bytealg.MakeNoZero"], named := ["demurrage/civil.lengths"], apart := false, laid := [("demurrage/civil.lengths", laid_demurrage_civil_lengths)], narrowed := true }
def IsoNextUptoSaid : Prop := isoNextUptoRow.holds Tryd.pinned (OpenSpec.upto isoNextSpec)

end Rows
end Go.Proofs.YtmaocplnikijnaaDoor
