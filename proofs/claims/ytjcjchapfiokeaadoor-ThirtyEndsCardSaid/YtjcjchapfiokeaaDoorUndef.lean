/- A slot that was not filled answers no question. Conditions: none. -/
import Derived.Test.YtjcjchapfiokeaaDoorCal
import Derived.WalkKit
namespace Go.Proofs.YtjcjchapfiokeaaDoor
@[go_sem] theorem yielded_undef : @yielded.match_1 (fun _ => Option Bool) (some undef) (fun b => some b) (fun _ => none) = none := rfl
/-- A region of many operations stands as two lists, one behind the other: laid out as one, the walk goes on quickly. -/
theorem wp_region_app {P : Program} {id : Nat} {l m : List Oper} {Q : Exit → Act → World → Prop} {a : Act} {w : World} (h : (Code.region id (l ++ m).toArray false).wp P Q a w) : (Code.region id (List.append l m).toArray false).wp P Q a w := h
end Go.Proofs.YtjcjchapfiokeaaDoor
