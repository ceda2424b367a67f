/- Starts that meet the rows' lists of two tables. Conditions: none. -/
import Derived.Test.YtlilffoflkkbdaaDoorLaid4
namespace Go.Proofs.YtlilffoflkkbdaaDoor
open Go.ChangeShapes Go.WideShapes Go.ChangeAt Go.RowKit
noncomputable def laidWN (os : Os) : World :=
  { laidW os with heap := (laidW os).heap.modify 0 fun
      | .cells _ t frozen => .cells #[.string ⟨#[110, 111, 110, 101]⟩, .string ⟨#[102, 111, 108, 108, 111, 119, 105, 110, 103]⟩, .string ⟨#[109, 111, 100, 102, 111, 108, 108, 111, 119, 105, 110, 103]⟩, .string ⟨#[112, 114, 101, 99, 101, 100, 105, 110, 103]⟩, .string ⟨#[109, 111, 100, 112, 114, 101, 99, 101, 100, 105, 110, 103]⟩] t frozen
      | o => o }
noncomputable def laidWO (os : Os) : World :=
  { laidW os with heap := (laidW os).heap.modify 1 fun
      | .cells _ t frozen => .cells #[.bool true, .bool true, .bool true, .bool true, .bool true, .bool true, .bool true] t frozen
      | o => o }
end Go.Proofs.YtlilffoflkkbdaaDoor
