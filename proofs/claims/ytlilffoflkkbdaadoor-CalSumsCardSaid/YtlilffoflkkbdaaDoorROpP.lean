/- Two small facts of equality's test. Conditions: none. -/
import Derived.Test.YtlilffoflkkbdaaDoorCal
namespace Go.Proofs.YtlilffoflkkbdaaDoor
theorem beqT {a b : Int} (h : a = b) : (a == b) = true := by rw [h]; simp
theorem beqF {a b : Int} (h : a ≠ b) : (a == b) = false := beq_eq_false_iff_ne.2 h
end Go.Proofs.YtlilffoflkkbdaaDoor
