/- A slot that was not filled answers no question. Conditions: none. -/
import Derived.Test.YtlilffoflkkbdaaDoorCal
import Derived.WalkKit
namespace Go.Proofs.YtlilffoflkkbdaaDoor
@[go_sem] theorem yielded_undef : @yielded.match_1 (fun _ => Option Bool) (some undef) (fun b => some b) (fun _ => none) = none := rfl
end Go.Proofs.YtlilffoflkkbdaaDoor
