/- The contracts of the layer of months, first part: a month's end, and a day so many months on, of days. Conditions: the table of months' lengths lies as the program's text lays it. -/
import Derived.Test.YtjcjchapfiokeaaDoorCivF
import Derived.Test.YtjcjchapfiokeaaDoorMon
import Derived.Deep.RegionHeld3
import Derived.Deep.RegionWith
namespace Go.Proofs.YtjcjchapfiokeaaDoor
open Go.RowKit
set_option linter.unusedVariables false

theorem mend_c (y m d : Int) (w : World) (hL : Laid w) : Calls Tryd.prog 100 #[.agg #[.int .i64 y, .int .i64 m, .int .i64 d]] w fun e w' => e = .returned (.agg #[.int .i64 y, .int .i64 m, .int .i64 (Cal.len y m)]) ∧ Below w.heap.size w w' := by
  go_enter Tryd.func100, Tryd.ntmps100
  go_wp2_with fail
  refine (length_c _ _ _ (hL.below (by repeat (first | assumption | exact Below.refl _ _ | (with_reducible refine Below.drew ?_) | (with_reducible refine below_drewN' ?_ _) | (with_reducible refine below_al ?_) | ((with_reducible refine below_set ?_ ?_); rotate_left; focus (first | (simp; done) | (simp; omega))))))).mono ?_; rintro e w' ⟨rfl, rfl⟩
  go_wp2_with fail
  refine bodyPost_ret (v := .agg #[.int .i64 y, .int .i64 m, .int .i64 (Cal.len y m)]) (by simp [results, Tryd.results100, go_sem]) rfl ⟨rfl, ?_⟩
  repeat (first | assumption | exact Below.refl _ _ | (with_reducible refine Below.drew ?_) | (with_reducible refine below_drewN' ?_ _) | (with_reducible refine below_al ?_) | ((with_reducible refine below_set ?_ ?_); rotate_left; focus (first | (simp; done) | (simp; omega))))

end Go.Proofs.YtjcjchapfiokeaaDoor
