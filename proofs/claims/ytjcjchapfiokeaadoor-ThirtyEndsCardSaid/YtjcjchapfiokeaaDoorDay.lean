/- The number of a day, as the statements' own helper asks it. Conditions: none. -/
import Derived.Test.YtjcjchapfiokeaaDoorCivF
namespace Go.Proofs.YtjcjchapfiokeaaDoor
open Go.RowKit
theorem day07_c (y m d : Int) (w : World) : Calls Tryd.prog 56 #[.int .i64 y, .int .i64 m, .int .i64 d] w fun e w' => e = .returned (.int .i64 (numV y m d)) ∧ Below w.heap.size w w' := by
  go_enter Tryd.func56, Tryd.ntmps56
  go_wp2_with fail
  refine (rnumber_c _ _ _ _).mono ?_; rintro e w1 ⟨rfl, hb1⟩
  go_wp2_with fail
  go_ret
  exact ⟨rfl, hb1⟩
theorem day12_c (y m d : Int) (w : World) : Calls Tryd.prog 43 #[.int .i64 y, .int .i64 m, .int .i64 d] w fun e w' => e = .returned (.int .i64 (numV y m d)) ∧ Below w.heap.size w w' := by
  go_enter Tryd.func43, Tryd.ntmps43
  go_wp2_with fail
  refine (rnumber_c _ _ _ _).mono ?_; rintro e w1 ⟨rfl, hb1⟩
  go_wp2_with fail
  go_ret
  exact ⟨rfl, hb1⟩
theorem day_none : True := trivial
end Go.Proofs.YtjcjchapfiokeaaDoor
