/- Two weeks of truths, compared. Conditions: none. -/
import Derived.Test.YtlilffoflkkbdaaDoorLaid4
import Derived.ChangeKeysEq
import Derived.Laws.StructEq
import Derived.WalkKit
namespace Go.Proofs.YtlilffoflkkbdaaDoor
open Go.RowKit
set_option linter.unusedVariables false
theorem part_bool (xs : Array Value) (i : Nat) (b : Bool) (h : xs[i]? = some (.bool b)) (w : World) : (part 4 xs i).run Tryd.prog w = .ok (.bool b) w := by
  have hs : i + 1 ≤ xs.size := by
    have := (Array.getElem?_eq_some_iff.1 h).1; omega
  simp [part, go_sem, h, Tryd.sizeOf4, Tryd.isAgg4]
theorem eq_items (a0 a1 a2 a3 a4 a5 a6 b0 b1 b2 b3 b4 b5 b6 : Bool) (w : World) : (Op.eqItems 9999 4 1 #[.bool a0, .bool a1, .bool a2, .bool a3, .bool a4, .bool a5, .bool a6] #[.bool b0, .bool b1, .bool b2, .bool b3, .bool b4, .bool b5, .bool b6] (List.range 7)).run Tryd.prog w = .ok ((a0 == b0) && ((a1 == b1) && ((a2 == b2) && ((a3 == b3) && ((a4 == b4) && ((a5 == b5) && (a6 == b6))))))) w := by
  have e : List.range 7 = [0, 1, 2, 3, 4, 5, 6] := rfl
  rw [e]
  rw [Op.eqItems, Sem.run_bind, part_bool _ _ a0 rfl, Result.andThen_ok, Sem.run_bind, part_bool _ _ b0 rfl, Result.andThen_ok, Sem.run_bind, run_equalIn_bool' w 9998 4 a0 b0 Tryd.underlying4, Result.andThen_ok]
  cases (a0 == b0)
  · rfl
  rw [if_neg (by decide)]
  rw [Op.eqItems, Sem.run_bind, part_bool _ _ a1 rfl, Result.andThen_ok, Sem.run_bind, part_bool _ _ b1 rfl, Result.andThen_ok, Sem.run_bind, run_equalIn_bool' w 9998 4 a1 b1 Tryd.underlying4, Result.andThen_ok]
  cases (a1 == b1)
  · rfl
  rw [if_neg (by decide)]
  rw [Op.eqItems, Sem.run_bind, part_bool _ _ a2 rfl, Result.andThen_ok, Sem.run_bind, part_bool _ _ b2 rfl, Result.andThen_ok, Sem.run_bind, run_equalIn_bool' w 9998 4 a2 b2 Tryd.underlying4, Result.andThen_ok]
  cases (a2 == b2)
  · rfl
  rw [if_neg (by decide)]
  rw [Op.eqItems, Sem.run_bind, part_bool _ _ a3 rfl, Result.andThen_ok, Sem.run_bind, part_bool _ _ b3 rfl, Result.andThen_ok, Sem.run_bind, run_equalIn_bool' w 9998 4 a3 b3 Tryd.underlying4, Result.andThen_ok]
  cases (a3 == b3)
  · rfl
  rw [if_neg (by decide)]
  rw [Op.eqItems, Sem.run_bind, part_bool _ _ a4 rfl, Result.andThen_ok, Sem.run_bind, part_bool _ _ b4 rfl, Result.andThen_ok, Sem.run_bind, run_equalIn_bool' w 9998 4 a4 b4 Tryd.underlying4, Result.andThen_ok]
  cases (a4 == b4)
  · rfl
  rw [if_neg (by decide)]
  rw [Op.eqItems, Sem.run_bind, part_bool _ _ a5 rfl, Result.andThen_ok, Sem.run_bind, part_bool _ _ b5 rfl, Result.andThen_ok, Sem.run_bind, run_equalIn_bool' w 9998 4 a5 b5 Tryd.underlying4, Result.andThen_ok]
  cases (a5 == b5)
  · rfl
  rw [if_neg (by decide)]
  rw [Op.eqItems, Sem.run_bind, part_bool _ _ a6 rfl, Result.andThen_ok, Sem.run_bind, part_bool _ _ b6 rfl, Result.andThen_ok, Sem.run_bind, run_equalIn_bool' w 9998 4 a6 b6 Tryd.underlying4, Result.andThen_ok]
  cases (a6 == b6)
  · rfl
  rw [if_neg (by decide)]
  rfl
theorem eq_week {T : TypeId} (hu : Tryd.prog.underlying T = some (.array 7 4)) (a0 a1 a2 a3 a4 a5 a6 b0 b1 b2 b3 b4 b5 b6 : Bool) (w : World) : (Op.equalIn 10000 T (.agg #[.bool a0, .bool a1, .bool a2, .bool a3, .bool a4, .bool a5, .bool a6]) (.agg #[.bool b0, .bool b1, .bool b2, .bool b3, .bool b4, .bool b5, .bool b6])).run Tryd.prog w = .ok ((a0 == b0) && ((a1 == b1) && ((a2 == b2) && ((a3 == b3) && ((a4 == b4) && ((a5 == b5) && (a6 == b6))))))) w := by
  obtain ⟨i, hi⟩ : ∃ i, Tryd.prog.info? 4 = some i := Option.isSome_iff_exists.1 (show (Tryd.prog.info? 4).isSome = true by kernel_rfl)
  rw [show (10000 : Nat) = 9999 + 1 from rfl, run_equalIn_array w 9999 _ _ hu hi, cellsBool]
  exact eq_items a0 a1 a2 a3 a4 a5 a6 b0 b1 b2 b3 b4 b5 b6 w
end Go.Proofs.YtlilffoflkkbdaaDoor
