/- Wide numbers of the program. -/
import Derived.Test.YtjcjchapfiokeaaDoorBigH
namespace Go.Proofs.YtjcjchapfiokeaaDoor
open Go.RowKit
set_option linter.unusedVariables false
set_option linter.unusedSimpArgs false
theorem wof_c (n : Int) (w : World) : Calls Tryd.prog 96 #[.int .u64 n] w fun e w' => e = .returned (.agg #[.int .u64 0, .int .u64 n]) ∧ Below w.heap.size w w' := by
  go_enter Tryd.func96, Tryd.ntmps96
  go_upto_region 1 with fail
  go_wp2_with fail
  refine bodyPost_ret (v := .agg #[.int .u64 0, .int .u64 n]) (by simp [results, Tryd.results96, go_sem]) rfl ?_
  exact ⟨rfl, below_al (Below.refl _ _)⟩
theorem nan_c (n : Int) (w : World) : Calls Tryd.prog 103 #[.int .u64 n] w fun e w' => e = .returned (.bool false) ∧ w = w' := by
  go_enter Tryd.func103, Tryd.ntmps103
  go_wp2_with fail
  refine bodyPost_ret (v := .bool false) (by simp [results, Tryd.results103, go_sem]) rfl ?_
  exact ⟨rfl, rfl⟩
theorem cmp64_c (n m : Nat) (w : World) : Calls Tryd.prog 102 #[.int .u64 (n : Int), .int .u64 (m : Int)] w fun e w' => e = .returned (.int .i64 (cmpI n m)) ∧ w = w' := by
  go_enter Tryd.func102, Tryd.ntmps102
  go_wp2_with fail
  refine (nan_c _ _).mono ?_; rintro e wq ⟨rfl, rfl⟩
  go_wp2_with fail
  refine (nan_c _ _).mono ?_; rintro e wq ⟨rfl, rfl⟩
  by_cases h1 : n < m
  · have d1 : decide ((n : Int) < (m : Int)) = true := decide_eq_true (by omega)
    go_wp2_with fail
    refine bodyPost_ret (v := .int .i64 (-1)) (by simp [results, Tryd.results102, go_sem]) rfl ?_
    exact ⟨by unfold cmpI; rw [if_pos h1], rfl⟩
  · have d1 : decide ((n : Int) < (m : Int)) = false := decide_eq_false (by omega)
    by_cases h2 : m < n
    · have d2 : decide ((m : Int) < (n : Int)) = true := decide_eq_true (by omega)
      go_wp2_with fail
      refine bodyPost_ret (v := .int .i64 1) (by simp [results, Tryd.results102, go_sem]) rfl ?_
      exact ⟨by rw [cmpI_gt h2], rfl⟩
    · have d2 : decide ((m : Int) < (n : Int)) = false := decide_eq_false (by omega)
      go_wp2_with fail
      refine bodyPost_ret (v := .int .i64 0) (by simp [results, Tryd.results102, go_sem]) rfl ?_
      exact ⟨by unfold cmpI; rw [if_neg h1, if_neg h2], rfl⟩
theorem wcmp_c (n m : Nat) (w : World) : Calls Tryd.prog 101 #[.agg #[.int .u64 0, .int .u64 (n : Int)], .agg #[.int .u64 0, .int .u64 (m : Int)]] w fun e w' => e = .returned (.int .i64 (cmpI n m)) ∧ Below w.heap.size w w' := by
  go_enter Tryd.func101, Tryd.ntmps101
  go_wp2_with fail
  refine (cmp64_c _ _ _).mono ?_; rintro e wq ⟨rfl, rfl⟩
  go_wp2_with fail
  refine bodyPost_ret (v := .int .i64 (cmpI n m)) (by simp [results, Tryd.results101, go_sem]) rfl ?_
  exact ⟨rfl, below_al (below_al (Below.refl _ _))⟩
end Go.Proofs.YtjcjchapfiokeaaDoor
