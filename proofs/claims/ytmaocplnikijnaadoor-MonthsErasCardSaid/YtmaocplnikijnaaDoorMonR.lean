/- The contracts of the document's layer of months. Conditions: none. -/
import Derived.Test.YtmaocplnikijnaaDoorCivF
import Derived.Test.YtmaocplnikijnaaDoorMon
namespace Go.Proofs.YtmaocplnikijnaaDoor
open Go.RowKit
set_option linter.unusedVariables false

set_option maxHeartbeats 1000000 in
theorem rend_in (n : Int) (h1 : 1 ≤ n) (h2 : n ≤ 3652059) (w : World) : Calls Tryd.prog 26 #[.int .i64 n] w fun e w' => e = .returned (.tuple #[.int .i64 (Mon.endV n), .int .i64 0]) ∧ Below w.heap.size w w' := by
  have v := (Mon.end_day h1 h2).may
  have qe : Mon.endV n = Cal.num (Cal.yOf n) (Cal.mOf n) (Cal.len (Cal.yOf n) (Cal.mOf n)) := if_pos ⟨h1, h2⟩
  rw [qe]; clear qe
  have V := Lib.hid v; clear v
  have hB : Below w.heap.size w w := Below.refl _ _
  go_enter Tryd.func26, Tryd.ntmps26
  go_wp2_with fail
  refine (rof_yes _ _ (by assumption) (by assumption)).mono ?_; rintro e w1 ⟨rfl, hb1⟩
  have hz1 := hb1.size; (try simp at hz1); obtain ⟨hc1, hf1⟩ := bcell hb1; have hB1 := below_step (w := w) hb1 (by repeat (first | assumption | exact Below.refl _ _ | (with_reducible refine Below.drew ?_) | (with_reducible refine below_drewN' ?_ _) | (with_reducible refine below_al ?_) | ((with_reducible refine below_set ?_ ?_); rotate_left; focus (first | (simp; done) | (simp; omega)))))
  have le_w_w1 : w.heap.size ≤ w1.heap.size := by omega
  try have lt_w_w1 : w.heap.size < w1.heap.size := by omega
  go_wp2_with fail
  refine (rlength_c _ _ _).mono ?_; rintro e w' ⟨rfl, rfl⟩
  go_wp2_with fail
  refine (rnumber_yes _ _ _ _ V.out).mono ?_; rintro e w2 ⟨rfl, hb2⟩
  have hz2 := hb2.size; (try simp at hz2); obtain ⟨hc2, hf2⟩ := bcell hb2; have hB2 := below_step (w := w) hb2 (by repeat (first | assumption | exact Below.refl _ _ | (with_reducible refine Below.drew ?_) | (with_reducible refine below_drewN' ?_ _) | (with_reducible refine below_al ?_) | ((with_reducible refine below_set ?_ ?_); rotate_left; focus (first | (simp; done) | (simp; omega)))))
  have le_w_w2 : w.heap.size ≤ w2.heap.size := by omega
  try have lt_w_w2 : w.heap.size < w2.heap.size := by omega
  have le_w1_w2 : w1.heap.size ≤ w2.heap.size := by omega
  try have lt_w1_w2 : w1.heap.size < w2.heap.size := by omega
  go_wp2_with fail
  go_ret2
  exact ⟨rfl, by repeat (first | assumption | exact Below.refl _ _ | (with_reducible refine Below.drew ?_) | (with_reducible refine below_drewN' ?_ _) | (with_reducible refine below_al ?_) | ((with_reducible refine below_set ?_ ?_); rotate_left; focus (first | (simp; done) | (simp; omega))))⟩
set_option maxHeartbeats 1000000 in
theorem rend_out (n : Int) (h : Hid (n < 1 ∨ 3652059 < n)) (w : World) : Calls Tryd.prog 26 #[.int .i64 n] w fun e w' => e = .returned (.tuple #[.int .i64 0, .int .i64 3]) ∧ Below w.heap.size w w' := by
  have hB : Below w.heap.size w w := Below.refl _ _
  go_enter Tryd.func26, Tryd.ntmps26
  go_wp2_with fail
  refine (rof_no _ _ h.out).mono ?_; rintro e w1 ⟨rfl, hb1⟩
  have hz1 := hb1.size; (try simp at hz1); obtain ⟨hc1, hf1⟩ := bcell hb1; have hB1 := below_step (w := w) hb1 (by repeat (first | assumption | exact Below.refl _ _ | (with_reducible refine Below.drew ?_) | (with_reducible refine below_drewN' ?_ _) | (with_reducible refine below_al ?_) | ((with_reducible refine below_set ?_ ?_); rotate_left; focus (first | (simp; done) | (simp; omega)))))
  have le_w_w1 : w.heap.size ≤ w1.heap.size := by omega
  try have lt_w_w1 : w.heap.size < w1.heap.size := by omega
  go_wp2_with fail
  go_ret2
  exact ⟨rfl, by repeat (first | assumption | exact Below.refl _ _ | (with_reducible refine Below.drew ?_) | (with_reducible refine below_drewN' ?_ _) | (with_reducible refine below_al ?_) | ((with_reducible refine below_set ?_ ?_); rotate_left; focus (first | (simp; done) | (simp; omega))))⟩
theorem rend_c (n : Int) (w : World) : Calls Tryd.prog 26 #[.int .i64 n] w fun e w' => e = .returned (.tuple #[.int .i64 (Mon.endV n), .int .i64 (ofE n)]) ∧ Below w.heap.size w w' := by
  by_cases h : 1 ≤ n ∧ n ≤ 3652059
  · rw [(of_in h.1 h.2).2.2.2]; exact rend_in n h.1 h.2 w
  · have k : n < 1 ∨ 3652059 < n := by omega
    rw [(of_out k).2.2.2, Mon.endV_out k]; exact rend_out n k w
end Go.Proofs.YtmaocplnikijnaaDoor
