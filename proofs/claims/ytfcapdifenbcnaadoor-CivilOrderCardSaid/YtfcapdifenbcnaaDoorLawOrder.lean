/- The walk of CivilOrder: for all pairs of days the law returns true. Conditions: the table of months' lengths lies as the program's text lays it. -/
import Derived.Test.YtfcapdifenbcnaaDoorCivShown
import Derived.Test.YtfcapdifenbcnaaDoorCalMore
namespace Go.Proofs.YtfcapdifenbcnaaDoor
open Go.RowKit
set_option maxHeartbeats 1000000 in
theorem civilOrder_na (y m d y' m' d' : Int) (h : Cal.mayB y m d = false) (w : World) (hL : Laid w) : Calls Tryd.prog 10 #[.agg #[.int .i64 y, .int .i64 m, .int .i64 d], .agg #[.int .i64 y', .int .i64 m', .int .i64 d']] w fun e w' => e = .returned (.bool true) ∧ Below w.heap.size w w' := by
  have hB : Below w.heap.size w w := Below.refl _ _
  go_enter Tryd.func10, Tryd.ntmps10
  go_wp2_with fail
  refine (shown04_c _ (hL.below (by repeat (first | assumption | exact Below.refl _ _ | refine below_al ?_ | refine below_drewN' ?_ _ | (refine below_set ?_ ?_; rotate_left; (simp; omega)))))).mono ?_; rintro e w1 ⟨rfl, hb1⟩
  have hz1 := hb1.size; (try simp at hz1); obtain ⟨hc1, hf1⟩ := bcell hb1; have hB1 := below_step (w := w) hb1 (by repeat (first | assumption | exact Below.refl _ _ | refine below_al ?_ | refine below_drewN' ?_ _ | (refine below_set ?_ ?_; rotate_left; (simp; omega))))
  have le_w_w1 : w.heap.size ≤ w1.heap.size := by omega
  try have lt_w_w1 : w.heap.size < w1.heap.size := by omega
  have le1_w_w1 : w.heap.size + 1 ≤ w1.heap.size := by omega
  try have lt1_w_w1 : w.heap.size + 1 < w1.heap.size := by omega
  go_wp2_with fail
  refine (rmay_c _ _ _ _).mono ?_; rintro e w2 ⟨rfl, hb2⟩
  have hz2 := hb2.size; (try simp at hz2); obtain ⟨hc2, hf2⟩ := bcell hb2; have hB2 := below_step (w := w) hb2 (by repeat (first | assumption | exact Below.refl _ _ | refine below_al ?_ | refine below_drewN' ?_ _ | (refine below_set ?_ ?_; rotate_left; (simp; omega))))
  have le_w_w2 : w.heap.size ≤ w2.heap.size := by omega
  try have lt_w_w2 : w.heap.size < w2.heap.size := by omega
  have le1_w_w2 : w.heap.size + 1 ≤ w2.heap.size := by omega
  try have lt1_w_w2 : w.heap.size + 1 < w2.heap.size := by omega
  have le_w1_w2 : w1.heap.size ≤ w2.heap.size := by omega
  try have lt_w1_w2 : w1.heap.size < w2.heap.size := by omega
  go_wp2_with fail
  go_ret
  exact ⟨rfl, by repeat (first | assumption | exact Below.refl _ _ | refine below_al ?_ | refine below_drewN' ?_ _ | (refine below_set ?_ ?_; rotate_left; (simp; omega)))⟩
set_option maxHeartbeats 1000000 in
theorem civilOrder_nb (y m d y' m' d' : Int) (h : Cal.mayB y m d = true) (h' : Cal.mayB y' m' d' = false) (w : World) (hL : Laid w) : Calls Tryd.prog 10 #[.agg #[.int .i64 y, .int .i64 m, .int .i64 d], .agg #[.int .i64 y', .int .i64 m', .int .i64 d']] w fun e w' => e = .returned (.bool true) ∧ Below w.heap.size w w' := by
  have hB : Below w.heap.size w w := Below.refl _ _
  go_enter Tryd.func10, Tryd.ntmps10
  go_wp2_with fail
  refine (shown04_c _ (hL.below (by repeat (first | assumption | exact Below.refl _ _ | refine below_al ?_ | refine below_drewN' ?_ _ | (refine below_set ?_ ?_; rotate_left; (simp; omega)))))).mono ?_; rintro e w1 ⟨rfl, hb1⟩
  have hz1 := hb1.size; (try simp at hz1); obtain ⟨hc1, hf1⟩ := bcell hb1; have hB1 := below_step (w := w) hb1 (by repeat (first | assumption | exact Below.refl _ _ | refine below_al ?_ | refine below_drewN' ?_ _ | (refine below_set ?_ ?_; rotate_left; (simp; omega))))
  have le_w_w1 : w.heap.size ≤ w1.heap.size := by omega
  try have lt_w_w1 : w.heap.size < w1.heap.size := by omega
  have le1_w_w1 : w.heap.size + 1 ≤ w1.heap.size := by omega
  try have lt1_w_w1 : w.heap.size + 1 < w1.heap.size := by omega
  go_wp2_with fail
  refine (rmay_c _ _ _ _).mono ?_; rintro e w2 ⟨rfl, hb2⟩
  have hz2 := hb2.size; (try simp at hz2); obtain ⟨hc2, hf2⟩ := bcell hb2; have hB2 := below_step (w := w) hb2 (by repeat (first | assumption | exact Below.refl _ _ | refine below_al ?_ | refine below_drewN' ?_ _ | (refine below_set ?_ ?_; rotate_left; (simp; omega))))
  have le_w_w2 : w.heap.size ≤ w2.heap.size := by omega
  try have lt_w_w2 : w.heap.size < w2.heap.size := by omega
  have le1_w_w2 : w.heap.size + 1 ≤ w2.heap.size := by omega
  try have lt1_w_w2 : w.heap.size + 1 < w2.heap.size := by omega
  have le_w1_w2 : w1.heap.size ≤ w2.heap.size := by omega
  try have lt_w1_w2 : w1.heap.size < w2.heap.size := by omega
  go_wp2_with fail
  refine (rmay_c _ _ _ _).mono ?_; rintro e w3 ⟨rfl, hb3⟩
  have hz3 := hb3.size; (try simp at hz3); obtain ⟨hc3, hf3⟩ := bcell hb3; have hB3 := below_step (w := w) hb3 (by repeat (first | assumption | exact Below.refl _ _ | refine below_al ?_ | refine below_drewN' ?_ _ | (refine below_set ?_ ?_; rotate_left; (simp; omega))))
  have le_w_w3 : w.heap.size ≤ w3.heap.size := by omega
  try have lt_w_w3 : w.heap.size < w3.heap.size := by omega
  have le1_w_w3 : w.heap.size + 1 ≤ w3.heap.size := by omega
  try have lt1_w_w3 : w.heap.size + 1 < w3.heap.size := by omega
  have le_w1_w3 : w1.heap.size ≤ w3.heap.size := by omega
  try have lt_w1_w3 : w1.heap.size < w3.heap.size := by omega
  have le_w2_w3 : w2.heap.size ≤ w3.heap.size := by omega
  try have lt_w2_w3 : w2.heap.size < w3.heap.size := by omega
  go_wp2_with fail
  go_ret
  exact ⟨rfl, by repeat (first | assumption | exact Below.refl _ _ | refine below_al ?_ | refine below_drewN' ?_ _ | (refine below_set ?_ ?_; rotate_left; (simp; omega)))⟩
set_option maxHeartbeats 1000000 in
theorem civilOrder_ylt (y m d y' m' d' : Int) (h : Cal.mayB y m d = true) (h' : Cal.mayB y' m' d' = true) (g : y < y') (w : World) (hL : Laid w) : Calls Tryd.prog 10 #[.agg #[.int .i64 y, .int .i64 m, .int .i64 d], .agg #[.int .i64 y', .int .i64 m', .int .i64 d']] w fun e w' => e = .returned (.bool true) ∧ Below w.heap.size w w' := by
  have A := Cal.day_mk h
  have B := Cal.day_mk h'
  have q1 : Cal.num y m d < Cal.num y' m' d' := (Cal.lt_iff A B).2 (by omega)
  have q2 : (Cal.num y m d == Cal.num y' m' d') = false := beq_eq_false_iff_ne.2 (by omega)
  have ny : (y == y') = false := beq_eq_false_iff_ne.2 (by omega)
  clear A B
  have hB : Below w.heap.size w w := Below.refl _ _
  go_enter Tryd.func10, Tryd.ntmps10
  go_wp2_with fail
  refine (shown04_c _ (hL.below (by repeat (first | assumption | exact Below.refl _ _ | refine below_al ?_ | refine below_drewN' ?_ _ | (refine below_set ?_ ?_; rotate_left; (simp; omega)))))).mono ?_; rintro e w1 ⟨rfl, hb1⟩
  have hz1 := hb1.size; (try simp at hz1); obtain ⟨hc1, hf1⟩ := bcell hb1; have hB1 := below_step (w := w) hb1 (by repeat (first | assumption | exact Below.refl _ _ | refine below_al ?_ | refine below_drewN' ?_ _ | (refine below_set ?_ ?_; rotate_left; (simp; omega))))
  have le_w_w1 : w.heap.size ≤ w1.heap.size := by omega
  try have lt_w_w1 : w.heap.size < w1.heap.size := by omega
  have le1_w_w1 : w.heap.size + 1 ≤ w1.heap.size := by omega
  try have lt1_w_w1 : w.heap.size + 1 < w1.heap.size := by omega
  go_wp2_with fail
  refine (rmay_c _ _ _ _).mono ?_; rintro e w2 ⟨rfl, hb2⟩
  have hz2 := hb2.size; (try simp at hz2); obtain ⟨hc2, hf2⟩ := bcell hb2; have hB2 := below_step (w := w) hb2 (by repeat (first | assumption | exact Below.refl _ _ | refine below_al ?_ | refine below_drewN' ?_ _ | (refine below_set ?_ ?_; rotate_left; (simp; omega))))
  have le_w_w2 : w.heap.size ≤ w2.heap.size := by omega
  try have lt_w_w2 : w.heap.size < w2.heap.size := by omega
  have le1_w_w2 : w.heap.size + 1 ≤ w2.heap.size := by omega
  try have lt1_w_w2 : w.heap.size + 1 < w2.heap.size := by omega
  have le_w1_w2 : w1.heap.size ≤ w2.heap.size := by omega
  try have lt_w1_w2 : w1.heap.size < w2.heap.size := by omega
  go_wp2_with fail
  refine (rmay_c _ _ _ _).mono ?_; rintro e w3 ⟨rfl, hb3⟩
  have hz3 := hb3.size; (try simp at hz3); obtain ⟨hc3, hf3⟩ := bcell hb3; have hB3 := below_step (w := w) hb3 (by repeat (first | assumption | exact Below.refl _ _ | refine below_al ?_ | refine below_drewN' ?_ _ | (refine below_set ?_ ?_; rotate_left; (simp; omega))))
  have le_w_w3 : w.heap.size ≤ w3.heap.size := by omega
  try have lt_w_w3 : w.heap.size < w3.heap.size := by omega
  have le1_w_w3 : w.heap.size + 1 ≤ w3.heap.size := by omega
  try have lt1_w_w3 : w.heap.size + 1 < w3.heap.size := by omega
  have le_w1_w3 : w1.heap.size ≤ w3.heap.size := by omega
  try have lt_w1_w3 : w1.heap.size < w3.heap.size := by omega
  have le_w2_w3 : w2.heap.size ≤ w3.heap.size := by omega
  try have lt_w2_w3 : w2.heap.size < w3.heap.size := by omega
  go_wp2_with fail
  refine (number_yes _ _ _ _ (hL.below (by repeat (first | assumption | exact Below.refl _ _ | refine below_al ?_ | refine below_drewN' ?_ _ | (refine below_set ?_ ?_; rotate_left; (simp; omega))))) (by assumption)).mono ?_; rintro e w4 ⟨rfl, hb4⟩
  have hz4 := hb4.size; (try simp at hz4); obtain ⟨hc4, hf4⟩ := bcell hb4; have hB4 := below_step (w := w) hb4 (by repeat (first | assumption | exact Below.refl _ _ | refine below_al ?_ | refine below_drewN' ?_ _ | (refine below_set ?_ ?_; rotate_left; (simp; omega))))
  have le_w_w4 : w.heap.size ≤ w4.heap.size := by omega
  try have lt_w_w4 : w.heap.size < w4.heap.size := by omega
  have le1_w_w4 : w.heap.size + 1 ≤ w4.heap.size := by omega
  try have lt1_w_w4 : w.heap.size + 1 < w4.heap.size := by omega
  have le_w1_w4 : w1.heap.size ≤ w4.heap.size := by omega
  try have lt_w1_w4 : w1.heap.size < w4.heap.size := by omega
  have le_w2_w4 : w2.heap.size ≤ w4.heap.size := by omega
  try have lt_w2_w4 : w2.heap.size < w4.heap.size := by omega
  have le_w3_w4 : w3.heap.size ≤ w4.heap.size := by omega
  try have lt_w3_w4 : w3.heap.size < w4.heap.size := by omega
  go_wp2_with fail
  refine (number_yes _ _ _ _ (hL.below (by repeat (first | assumption | exact Below.refl _ _ | refine below_al ?_ | refine below_drewN' ?_ _ | (refine below_set ?_ ?_; rotate_left; (simp; omega))))) (by assumption)).mono ?_; rintro e w5 ⟨rfl, hb5⟩
  have hz5 := hb5.size; (try simp at hz5); obtain ⟨hc5, hf5⟩ := bcell hb5; have hB5 := below_step (w := w) hb5 (by repeat (first | assumption | exact Below.refl _ _ | refine below_al ?_ | refine below_drewN' ?_ _ | (refine below_set ?_ ?_; rotate_left; (simp; omega))))
  have le_w_w5 : w.heap.size ≤ w5.heap.size := by omega
  try have lt_w_w5 : w.heap.size < w5.heap.size := by omega
  have le1_w_w5 : w.heap.size + 1 ≤ w5.heap.size := by omega
  try have lt1_w_w5 : w.heap.size + 1 < w5.heap.size := by omega
  have le_w1_w5 : w1.heap.size ≤ w5.heap.size := by omega
  try have lt_w1_w5 : w1.heap.size < w5.heap.size := by omega
  have le_w2_w5 : w2.heap.size ≤ w5.heap.size := by omega
  try have lt_w2_w5 : w2.heap.size < w5.heap.size := by omega
  have le_w3_w5 : w3.heap.size ≤ w5.heap.size := by omega
  try have lt_w3_w5 : w3.heap.size < w5.heap.size := by omega
  have le_w4_w5 : w4.heap.size ≤ w5.heap.size := by omega
  try have lt_w4_w5 : w4.heap.size < w5.heap.size := by omega
  go_wp2_with fail
  go_ret
  exact ⟨rfl, by repeat (first | assumption | exact Below.refl _ _ | refine below_al ?_ | refine below_drewN' ?_ _ | (refine below_set ?_ ?_; rotate_left; (simp; omega)))⟩
set_option maxHeartbeats 1000000 in
theorem civilOrder_ygt (y m d y' m' d' : Int) (h : Cal.mayB y m d = true) (h' : Cal.mayB y' m' d' = true) (g : y' < y) (w : World) (hL : Laid w) : Calls Tryd.prog 10 #[.agg #[.int .i64 y, .int .i64 m, .int .i64 d], .agg #[.int .i64 y', .int .i64 m', .int .i64 d']] w fun e w' => e = .returned (.bool true) ∧ Below w.heap.size w w' := by
  have A := Cal.day_mk h
  have B := Cal.day_mk h'
  have q1 : ¬ Cal.num y m d < Cal.num y' m' d' := by have := (Cal.lt_iff B A).2 (by omega); omega
  have q2 : (Cal.num y m d == Cal.num y' m' d') = false := beq_eq_false_iff_ne.2 (by have := (Cal.lt_iff B A).2 (by omega); omega)
  have ny : (y == y') = false := beq_eq_false_iff_ne.2 (by omega)
  have ly : ¬ y < y' := by omega
  clear g
  clear A B
  have hB : Below w.heap.size w w := Below.refl _ _
  go_enter Tryd.func10, Tryd.ntmps10
  go_wp2_with fail
  refine (shown04_c _ (hL.below (by repeat (first | assumption | exact Below.refl _ _ | refine below_al ?_ | refine below_drewN' ?_ _ | (refine below_set ?_ ?_; rotate_left; (simp; omega)))))).mono ?_; rintro e w1 ⟨rfl, hb1⟩
  have hz1 := hb1.size; (try simp at hz1); obtain ⟨hc1, hf1⟩ := bcell hb1; have hB1 := below_step (w := w) hb1 (by repeat (first | assumption | exact Below.refl _ _ | refine below_al ?_ | refine below_drewN' ?_ _ | (refine below_set ?_ ?_; rotate_left; (simp; omega))))
  have le_w_w1 : w.heap.size ≤ w1.heap.size := by omega
  try have lt_w_w1 : w.heap.size < w1.heap.size := by omega
  have le1_w_w1 : w.heap.size + 1 ≤ w1.heap.size := by omega
  try have lt1_w_w1 : w.heap.size + 1 < w1.heap.size := by omega
  go_wp2_with fail
  refine (rmay_c _ _ _ _).mono ?_; rintro e w2 ⟨rfl, hb2⟩
  have hz2 := hb2.size; (try simp at hz2); obtain ⟨hc2, hf2⟩ := bcell hb2; have hB2 := below_step (w := w) hb2 (by repeat (first | assumption | exact Below.refl _ _ | refine below_al ?_ | refine below_drewN' ?_ _ | (refine below_set ?_ ?_; rotate_left; (simp; omega))))
  have le_w_w2 : w.heap.size ≤ w2.heap.size := by omega
  try have lt_w_w2 : w.heap.size < w2.heap.size := by omega
  have le1_w_w2 : w.heap.size + 1 ≤ w2.heap.size := by omega
  try have lt1_w_w2 : w.heap.size + 1 < w2.heap.size := by omega
  have le_w1_w2 : w1.heap.size ≤ w2.heap.size := by omega
  try have lt_w1_w2 : w1.heap.size < w2.heap.size := by omega
  go_wp2_with fail
  refine (rmay_c _ _ _ _).mono ?_; rintro e w3 ⟨rfl, hb3⟩
  have hz3 := hb3.size; (try simp at hz3); obtain ⟨hc3, hf3⟩ := bcell hb3; have hB3 := below_step (w := w) hb3 (by repeat (first | assumption | exact Below.refl _ _ | refine below_al ?_ | refine below_drewN' ?_ _ | (refine below_set ?_ ?_; rotate_left; (simp; omega))))
  have le_w_w3 : w.heap.size ≤ w3.heap.size := by omega
  try have lt_w_w3 : w.heap.size < w3.heap.size := by omega
  have le1_w_w3 : w.heap.size + 1 ≤ w3.heap.size := by omega
  try have lt1_w_w3 : w.heap.size + 1 < w3.heap.size := by omega
  have le_w1_w3 : w1.heap.size ≤ w3.heap.size := by omega
  try have lt_w1_w3 : w1.heap.size < w3.heap.size := by omega
  have le_w2_w3 : w2.heap.size ≤ w3.heap.size := by omega
  try have lt_w2_w3 : w2.heap.size < w3.heap.size := by omega
  go_wp2_with fail
  refine (number_yes _ _ _ _ (hL.below (by repeat (first | assumption | exact Below.refl _ _ | refine below_al ?_ | refine below_drewN' ?_ _ | (refine below_set ?_ ?_; rotate_left; (simp; omega))))) (by assumption)).mono ?_; rintro e w4 ⟨rfl, hb4⟩
  have hz4 := hb4.size; (try simp at hz4); obtain ⟨hc4, hf4⟩ := bcell hb4; have hB4 := below_step (w := w) hb4 (by repeat (first | assumption | exact Below.refl _ _ | refine below_al ?_ | refine below_drewN' ?_ _ | (refine below_set ?_ ?_; rotate_left; (simp; omega))))
  have le_w_w4 : w.heap.size ≤ w4.heap.size := by omega
  try have lt_w_w4 : w.heap.size < w4.heap.size := by omega
  have le1_w_w4 : w.heap.size + 1 ≤ w4.heap.size := by omega
  try have lt1_w_w4 : w.heap.size + 1 < w4.heap.size := by omega
  have le_w1_w4 : w1.heap.size ≤ w4.heap.size := by omega
  try have lt_w1_w4 : w1.heap.size < w4.heap.size := by omega
  have le_w2_w4 : w2.heap.size ≤ w4.heap.size := by omega
  try have lt_w2_w4 : w2.heap.size < w4.heap.size := by omega
  have le_w3_w4 : w3.heap.size ≤ w4.heap.size := by omega
  try have lt_w3_w4 : w3.heap.size < w4.heap.size := by omega
  go_wp2_with fail
  refine (number_yes _ _ _ _ (hL.below (by repeat (first | assumption | exact Below.refl _ _ | refine below_al ?_ | refine below_drewN' ?_ _ | (refine below_set ?_ ?_; rotate_left; (simp; omega))))) (by assumption)).mono ?_; rintro e w5 ⟨rfl, hb5⟩
  have hz5 := hb5.size; (try simp at hz5); obtain ⟨hc5, hf5⟩ := bcell hb5; have hB5 := below_step (w := w) hb5 (by repeat (first | assumption | exact Below.refl _ _ | refine below_al ?_ | refine below_drewN' ?_ _ | (refine below_set ?_ ?_; rotate_left; (simp; omega))))
  have le_w_w5 : w.heap.size ≤ w5.heap.size := by omega
  try have lt_w_w5 : w.heap.size < w5.heap.size := by omega
  have le1_w_w5 : w.heap.size + 1 ≤ w5.heap.size := by omega
  try have lt1_w_w5 : w.heap.size + 1 < w5.heap.size := by omega
  have le_w1_w5 : w1.heap.size ≤ w5.heap.size := by omega
  try have lt_w1_w5 : w1.heap.size < w5.heap.size := by omega
  have le_w2_w5 : w2.heap.size ≤ w5.heap.size := by omega
  try have lt_w2_w5 : w2.heap.size < w5.heap.size := by omega
  have le_w3_w5 : w3.heap.size ≤ w5.heap.size := by omega
  try have lt_w3_w5 : w3.heap.size < w5.heap.size := by omega
  have le_w4_w5 : w4.heap.size ≤ w5.heap.size := by omega
  try have lt_w4_w5 : w4.heap.size < w5.heap.size := by omega
  go_wp2_with fail
  go_ret
  exact ⟨rfl, by repeat (first | assumption | exact Below.refl _ _ | refine below_al ?_ | refine below_drewN' ?_ _ | (refine below_set ?_ ?_; rotate_left; (simp; omega)))⟩
set_option maxHeartbeats 1000000 in
theorem civilOrder_mlt (y m d m' d' : Int) (h : Cal.mayB y m d = true) (h' : Cal.mayB y m' d' = true) (g : m < m') (w : World) (hL : Laid w) : Calls Tryd.prog 10 #[.agg #[.int .i64 y, .int .i64 m, .int .i64 d], .agg #[.int .i64 y, .int .i64 m', .int .i64 d']] w fun e w' => e = .returned (.bool true) ∧ Below w.heap.size w w' := by
  have A := Cal.day_mk h
  have B := Cal.day_mk h'
  have q1 : Cal.num y m d < Cal.num y m' d' := (Cal.lt_iff A B).2 (by omega)
  have q2 : (Cal.num y m d == Cal.num y m' d') = false := beq_eq_false_iff_ne.2 (by omega)
  have nm : (m == m') = false := beq_eq_false_iff_ne.2 (by omega)
  clear A B
  have hB : Below w.heap.size w w := Below.refl _ _
  go_enter Tryd.func10, Tryd.ntmps10
  go_wp2_with fail
  refine (shown04_c _ (hL.below (by repeat (first | assumption | exact Below.refl _ _ | refine below_al ?_ | refine below_drewN' ?_ _ | (refine below_set ?_ ?_; rotate_left; (simp; omega)))))).mono ?_; rintro e w1 ⟨rfl, hb1⟩
  have hz1 := hb1.size; (try simp at hz1); obtain ⟨hc1, hf1⟩ := bcell hb1; have hB1 := below_step (w := w) hb1 (by repeat (first | assumption | exact Below.refl _ _ | refine below_al ?_ | refine below_drewN' ?_ _ | (refine below_set ?_ ?_; rotate_left; (simp; omega))))
  have le_w_w1 : w.heap.size ≤ w1.heap.size := by omega
  try have lt_w_w1 : w.heap.size < w1.heap.size := by omega
  have le1_w_w1 : w.heap.size + 1 ≤ w1.heap.size := by omega
  try have lt1_w_w1 : w.heap.size + 1 < w1.heap.size := by omega
  go_wp2_with fail
  refine (rmay_c _ _ _ _).mono ?_; rintro e w2 ⟨rfl, hb2⟩
  have hz2 := hb2.size; (try simp at hz2); obtain ⟨hc2, hf2⟩ := bcell hb2; have hB2 := below_step (w := w) hb2 (by repeat (first | assumption | exact Below.refl _ _ | refine below_al ?_ | refine below_drewN' ?_ _ | (refine below_set ?_ ?_; rotate_left; (simp; omega))))
  have le_w_w2 : w.heap.size ≤ w2.heap.size := by omega
  try have lt_w_w2 : w.heap.size < w2.heap.size := by omega
  have le1_w_w2 : w.heap.size + 1 ≤ w2.heap.size := by omega
  try have lt1_w_w2 : w.heap.size + 1 < w2.heap.size := by omega
  have le_w1_w2 : w1.heap.size ≤ w2.heap.size := by omega
  try have lt_w1_w2 : w1.heap.size < w2.heap.size := by omega
  go_wp2_with fail
  refine (rmay_c _ _ _ _).mono ?_; rintro e w3 ⟨rfl, hb3⟩
  have hz3 := hb3.size; (try simp at hz3); obtain ⟨hc3, hf3⟩ := bcell hb3; have hB3 := below_step (w := w) hb3 (by repeat (first | assumption | exact Below.refl _ _ | refine below_al ?_ | refine below_drewN' ?_ _ | (refine below_set ?_ ?_; rotate_left; (simp; omega))))
  have le_w_w3 : w.heap.size ≤ w3.heap.size := by omega
  try have lt_w_w3 : w.heap.size < w3.heap.size := by omega
  have le1_w_w3 : w.heap.size + 1 ≤ w3.heap.size := by omega
  try have lt1_w_w3 : w.heap.size + 1 < w3.heap.size := by omega
  have le_w1_w3 : w1.heap.size ≤ w3.heap.size := by omega
  try have lt_w1_w3 : w1.heap.size < w3.heap.size := by omega
  have le_w2_w3 : w2.heap.size ≤ w3.heap.size := by omega
  try have lt_w2_w3 : w2.heap.size < w3.heap.size := by omega
  go_wp2_with fail
  refine (number_yes _ _ _ _ (hL.below (by repeat (first | assumption | exact Below.refl _ _ | refine below_al ?_ | refine below_drewN' ?_ _ | (refine below_set ?_ ?_; rotate_left; (simp; omega))))) (by assumption)).mono ?_; rintro e w4 ⟨rfl, hb4⟩
  have hz4 := hb4.size; (try simp at hz4); obtain ⟨hc4, hf4⟩ := bcell hb4; have hB4 := below_step (w := w) hb4 (by repeat (first | assumption | exact Below.refl _ _ | refine below_al ?_ | refine below_drewN' ?_ _ | (refine below_set ?_ ?_; rotate_left; (simp; omega))))
  have le_w_w4 : w.heap.size ≤ w4.heap.size := by omega
  try have lt_w_w4 : w.heap.size < w4.heap.size := by omega
  have le1_w_w4 : w.heap.size + 1 ≤ w4.heap.size := by omega
  try have lt1_w_w4 : w.heap.size + 1 < w4.heap.size := by omega
  have le_w1_w4 : w1.heap.size ≤ w4.heap.size := by omega
  try have lt_w1_w4 : w1.heap.size < w4.heap.size := by omega
  have le_w2_w4 : w2.heap.size ≤ w4.heap.size := by omega
  try have lt_w2_w4 : w2.heap.size < w4.heap.size := by omega
  have le_w3_w4 : w3.heap.size ≤ w4.heap.size := by omega
  try have lt_w3_w4 : w3.heap.size < w4.heap.size := by omega
  go_wp2_with fail
  refine (number_yes _ _ _ _ (hL.below (by repeat (first | assumption | exact Below.refl _ _ | refine below_al ?_ | refine below_drewN' ?_ _ | (refine below_set ?_ ?_; rotate_left; (simp; omega))))) (by assumption)).mono ?_; rintro e w5 ⟨rfl, hb5⟩
  have hz5 := hb5.size; (try simp at hz5); obtain ⟨hc5, hf5⟩ := bcell hb5; have hB5 := below_step (w := w) hb5 (by repeat (first | assumption | exact Below.refl _ _ | refine below_al ?_ | refine below_drewN' ?_ _ | (refine below_set ?_ ?_; rotate_left; (simp; omega))))
  have le_w_w5 : w.heap.size ≤ w5.heap.size := by omega
  try have lt_w_w5 : w.heap.size < w5.heap.size := by omega
  have le1_w_w5 : w.heap.size + 1 ≤ w5.heap.size := by omega
  try have lt1_w_w5 : w.heap.size + 1 < w5.heap.size := by omega
  have le_w1_w5 : w1.heap.size ≤ w5.heap.size := by omega
  try have lt_w1_w5 : w1.heap.size < w5.heap.size := by omega
  have le_w2_w5 : w2.heap.size ≤ w5.heap.size := by omega
  try have lt_w2_w5 : w2.heap.size < w5.heap.size := by omega
  have le_w3_w5 : w3.heap.size ≤ w5.heap.size := by omega
  try have lt_w3_w5 : w3.heap.size < w5.heap.size := by omega
  have le_w4_w5 : w4.heap.size ≤ w5.heap.size := by omega
  try have lt_w4_w5 : w4.heap.size < w5.heap.size := by omega
  go_wp2_with fail
  go_ret
  exact ⟨rfl, by repeat (first | assumption | exact Below.refl _ _ | refine below_al ?_ | refine below_drewN' ?_ _ | (refine below_set ?_ ?_; rotate_left; (simp; omega)))⟩
set_option maxHeartbeats 1000000 in
theorem civilOrder_mgt (y m d m' d' : Int) (h : Cal.mayB y m d = true) (h' : Cal.mayB y m' d' = true) (g : m' < m) (w : World) (hL : Laid w) : Calls Tryd.prog 10 #[.agg #[.int .i64 y, .int .i64 m, .int .i64 d], .agg #[.int .i64 y, .int .i64 m', .int .i64 d']] w fun e w' => e = .returned (.bool true) ∧ Below w.heap.size w w' := by
  have A := Cal.day_mk h
  have B := Cal.day_mk h'
  have q1 : ¬ Cal.num y m d < Cal.num y m' d' := by have := (Cal.lt_iff B A).2 (by omega); omega
  have q2 : (Cal.num y m d == Cal.num y m' d') = false := beq_eq_false_iff_ne.2 (by have := (Cal.lt_iff B A).2 (by omega); omega)
  have nm : (m == m') = false := beq_eq_false_iff_ne.2 (by omega)
  have lm : ¬ m < m' := by omega
  clear g
  clear A B
  have hB : Below w.heap.size w w := Below.refl _ _
  go_enter Tryd.func10, Tryd.ntmps10
  go_wp2_with fail
  refine (shown04_c _ (hL.below (by repeat (first | assumption | exact Below.refl _ _ | refine below_al ?_ | refine below_drewN' ?_ _ | (refine below_set ?_ ?_; rotate_left; (simp; omega)))))).mono ?_; rintro e w1 ⟨rfl, hb1⟩
  have hz1 := hb1.size; (try simp at hz1); obtain ⟨hc1, hf1⟩ := bcell hb1; have hB1 := below_step (w := w) hb1 (by repeat (first | assumption | exact Below.refl _ _ | refine below_al ?_ | refine below_drewN' ?_ _ | (refine below_set ?_ ?_; rotate_left; (simp; omega))))
  have le_w_w1 : w.heap.size ≤ w1.heap.size := by omega
  try have lt_w_w1 : w.heap.size < w1.heap.size := by omega
  have le1_w_w1 : w.heap.size + 1 ≤ w1.heap.size := by omega
  try have lt1_w_w1 : w.heap.size + 1 < w1.heap.size := by omega
  go_wp2_with fail
  refine (rmay_c _ _ _ _).mono ?_; rintro e w2 ⟨rfl, hb2⟩
  have hz2 := hb2.size; (try simp at hz2); obtain ⟨hc2, hf2⟩ := bcell hb2; have hB2 := below_step (w := w) hb2 (by repeat (first | assumption | exact Below.refl _ _ | refine below_al ?_ | refine below_drewN' ?_ _ | (refine below_set ?_ ?_; rotate_left; (simp; omega))))
  have le_w_w2 : w.heap.size ≤ w2.heap.size := by omega
  try have lt_w_w2 : w.heap.size < w2.heap.size := by omega
  have le1_w_w2 : w.heap.size + 1 ≤ w2.heap.size := by omega
  try have lt1_w_w2 : w.heap.size + 1 < w2.heap.size := by omega
  have le_w1_w2 : w1.heap.size ≤ w2.heap.size := by omega
  try have lt_w1_w2 : w1.heap.size < w2.heap.size := by omega
  go_wp2_with fail
  refine (rmay_c _ _ _ _).mono ?_; rintro e w3 ⟨rfl, hb3⟩
  have hz3 := hb3.size; (try simp at hz3); obtain ⟨hc3, hf3⟩ := bcell hb3; have hB3 := below_step (w := w) hb3 (by repeat (first | assumption | exact Below.refl _ _ | refine below_al ?_ | refine below_drewN' ?_ _ | (refine below_set ?_ ?_; rotate_left; (simp; omega))))
  have le_w_w3 : w.heap.size ≤ w3.heap.size := by omega
  try have lt_w_w3 : w.heap.size < w3.heap.size := by omega
  have le1_w_w3 : w.heap.size + 1 ≤ w3.heap.size := by omega
  try have lt1_w_w3 : w.heap.size + 1 < w3.heap.size := by omega
  have le_w1_w3 : w1.heap.size ≤ w3.heap.size := by omega
  try have lt_w1_w3 : w1.heap.size < w3.heap.size := by omega
  have le_w2_w3 : w2.heap.size ≤ w3.heap.size := by omega
  try have lt_w2_w3 : w2.heap.size < w3.heap.size := by omega
  go_wp2_with fail
  refine (number_yes _ _ _ _ (hL.below (by repeat (first | assumption | exact Below.refl _ _ | refine below_al ?_ | refine below_drewN' ?_ _ | (refine below_set ?_ ?_; rotate_left; (simp; omega))))) (by assumption)).mono ?_; rintro e w4 ⟨rfl, hb4⟩
  have hz4 := hb4.size; (try simp at hz4); obtain ⟨hc4, hf4⟩ := bcell hb4; have hB4 := below_step (w := w) hb4 (by repeat (first | assumption | exact Below.refl _ _ | refine below_al ?_ | refine below_drewN' ?_ _ | (refine below_set ?_ ?_; rotate_left; (simp; omega))))
  have le_w_w4 : w.heap.size ≤ w4.heap.size := by omega
  try have lt_w_w4 : w.heap.size < w4.heap.size := by omega
  have le1_w_w4 : w.heap.size + 1 ≤ w4.heap.size := by omega
  try have lt1_w_w4 : w.heap.size + 1 < w4.heap.size := by omega
  have le_w1_w4 : w1.heap.size ≤ w4.heap.size := by omega
  try have lt_w1_w4 : w1.heap.size < w4.heap.size := by omega
  have le_w2_w4 : w2.heap.size ≤ w4.heap.size := by omega
  try have lt_w2_w4 : w2.heap.size < w4.heap.size := by omega
  have le_w3_w4 : w3.heap.size ≤ w4.heap.size := by omega
  try have lt_w3_w4 : w3.heap.size < w4.heap.size := by omega
  go_wp2_with fail
  refine (number_yes _ _ _ _ (hL.below (by repeat (first | assumption | exact Below.refl _ _ | refine below_al ?_ | refine below_drewN' ?_ _ | (refine below_set ?_ ?_; rotate_left; (simp; omega))))) (by assumption)).mono ?_; rintro e w5 ⟨rfl, hb5⟩
  have hz5 := hb5.size; (try simp at hz5); obtain ⟨hc5, hf5⟩ := bcell hb5; have hB5 := below_step (w := w) hb5 (by repeat (first | assumption | exact Below.refl _ _ | refine below_al ?_ | refine below_drewN' ?_ _ | (refine below_set ?_ ?_; rotate_left; (simp; omega))))
  have le_w_w5 : w.heap.size ≤ w5.heap.size := by omega
  try have lt_w_w5 : w.heap.size < w5.heap.size := by omega
  have le1_w_w5 : w.heap.size + 1 ≤ w5.heap.size := by omega
  try have lt1_w_w5 : w.heap.size + 1 < w5.heap.size := by omega
  have le_w1_w5 : w1.heap.size ≤ w5.heap.size := by omega
  try have lt_w1_w5 : w1.heap.size < w5.heap.size := by omega
  have le_w2_w5 : w2.heap.size ≤ w5.heap.size := by omega
  try have lt_w2_w5 : w2.heap.size < w5.heap.size := by omega
  have le_w3_w5 : w3.heap.size ≤ w5.heap.size := by omega
  try have lt_w3_w5 : w3.heap.size < w5.heap.size := by omega
  have le_w4_w5 : w4.heap.size ≤ w5.heap.size := by omega
  try have lt_w4_w5 : w4.heap.size < w5.heap.size := by omega
  go_wp2_with fail
  go_ret
  exact ⟨rfl, by repeat (first | assumption | exact Below.refl _ _ | refine below_al ?_ | refine below_drewN' ?_ _ | (refine below_set ?_ ?_; rotate_left; (simp; omega)))⟩
set_option maxHeartbeats 1000000 in
theorem civilOrder_dlt (y m d d' : Int) (h : Cal.mayB y m d = true) (h' : Cal.mayB y m d' = true) (g : d < d') (w : World) (hL : Laid w) : Calls Tryd.prog 10 #[.agg #[.int .i64 y, .int .i64 m, .int .i64 d], .agg #[.int .i64 y, .int .i64 m, .int .i64 d']] w fun e w' => e = .returned (.bool true) ∧ Below w.heap.size w w' := by
  have A := Cal.day_mk h
  have B := Cal.day_mk h'
  have q1 : Cal.num y m d < Cal.num y m d' := (Cal.lt_iff A B).2 (by omega)
  have q2 : (Cal.num y m d == Cal.num y m d') = false := beq_eq_false_iff_ne.2 (by omega)
  have nd : (d == d') = false := beq_eq_false_iff_ne.2 (by omega)
  clear A B
  have hB : Below w.heap.size w w := Below.refl _ _
  go_enter Tryd.func10, Tryd.ntmps10
  go_wp2_with fail
  refine (shown04_c _ (hL.below (by repeat (first | assumption | exact Below.refl _ _ | refine below_al ?_ | refine below_drewN' ?_ _ | (refine below_set ?_ ?_; rotate_left; (simp; omega)))))).mono ?_; rintro e w1 ⟨rfl, hb1⟩
  have hz1 := hb1.size; (try simp at hz1); obtain ⟨hc1, hf1⟩ := bcell hb1; have hB1 := below_step (w := w) hb1 (by repeat (first | assumption | exact Below.refl _ _ | refine below_al ?_ | refine below_drewN' ?_ _ | (refine below_set ?_ ?_; rotate_left; (simp; omega))))
  have le_w_w1 : w.heap.size ≤ w1.heap.size := by omega
  try have lt_w_w1 : w.heap.size < w1.heap.size := by omega
  have le1_w_w1 : w.heap.size + 1 ≤ w1.heap.size := by omega
  try have lt1_w_w1 : w.heap.size + 1 < w1.heap.size := by omega
  go_wp2_with fail
  refine (rmay_c _ _ _ _).mono ?_; rintro e w2 ⟨rfl, hb2⟩
  have hz2 := hb2.size; (try simp at hz2); obtain ⟨hc2, hf2⟩ := bcell hb2; have hB2 := below_step (w := w) hb2 (by repeat (first | assumption | exact Below.refl _ _ | refine below_al ?_ | refine below_drewN' ?_ _ | (refine below_set ?_ ?_; rotate_left; (simp; omega))))
  have le_w_w2 : w.heap.size ≤ w2.heap.size := by omega
  try have lt_w_w2 : w.heap.size < w2.heap.size := by omega
  have le1_w_w2 : w.heap.size + 1 ≤ w2.heap.size := by omega
  try have lt1_w_w2 : w.heap.size + 1 < w2.heap.size := by omega
  have le_w1_w2 : w1.heap.size ≤ w2.heap.size := by omega
  try have lt_w1_w2 : w1.heap.size < w2.heap.size := by omega
  go_wp2_with fail
  refine (rmay_c _ _ _ _).mono ?_; rintro e w3 ⟨rfl, hb3⟩
  have hz3 := hb3.size; (try simp at hz3); obtain ⟨hc3, hf3⟩ := bcell hb3; have hB3 := below_step (w := w) hb3 (by repeat (first | assumption | exact Below.refl _ _ | refine below_al ?_ | refine below_drewN' ?_ _ | (refine below_set ?_ ?_; rotate_left; (simp; omega))))
  have le_w_w3 : w.heap.size ≤ w3.heap.size := by omega
  try have lt_w_w3 : w.heap.size < w3.heap.size := by omega
  have le1_w_w3 : w.heap.size + 1 ≤ w3.heap.size := by omega
  try have lt1_w_w3 : w.heap.size + 1 < w3.heap.size := by omega
  have le_w1_w3 : w1.heap.size ≤ w3.heap.size := by omega
  try have lt_w1_w3 : w1.heap.size < w3.heap.size := by omega
  have le_w2_w3 : w2.heap.size ≤ w3.heap.size := by omega
  try have lt_w2_w3 : w2.heap.size < w3.heap.size := by omega
  go_wp2_with fail
  refine (number_yes _ _ _ _ (hL.below (by repeat (first | assumption | exact Below.refl _ _ | refine below_al ?_ | refine below_drewN' ?_ _ | (refine below_set ?_ ?_; rotate_left; (simp; omega))))) (by assumption)).mono ?_; rintro e w4 ⟨rfl, hb4⟩
  have hz4 := hb4.size; (try simp at hz4); obtain ⟨hc4, hf4⟩ := bcell hb4; have hB4 := below_step (w := w) hb4 (by repeat (first | assumption | exact Below.refl _ _ | refine below_al ?_ | refine below_drewN' ?_ _ | (refine below_set ?_ ?_; rotate_left; (simp; omega))))
  have le_w_w4 : w.heap.size ≤ w4.heap.size := by omega
  try have lt_w_w4 : w.heap.size < w4.heap.size := by omega
  have le1_w_w4 : w.heap.size + 1 ≤ w4.heap.size := by omega
  try have lt1_w_w4 : w.heap.size + 1 < w4.heap.size := by omega
  have le_w1_w4 : w1.heap.size ≤ w4.heap.size := by omega
  try have lt_w1_w4 : w1.heap.size < w4.heap.size := by omega
  have le_w2_w4 : w2.heap.size ≤ w4.heap.size := by omega
  try have lt_w2_w4 : w2.heap.size < w4.heap.size := by omega
  have le_w3_w4 : w3.heap.size ≤ w4.heap.size := by omega
  try have lt_w3_w4 : w3.heap.size < w4.heap.size := by omega
  go_wp2_with fail
  refine (number_yes _ _ _ _ (hL.below (by repeat (first | assumption | exact Below.refl _ _ | refine below_al ?_ | refine below_drewN' ?_ _ | (refine below_set ?_ ?_; rotate_left; (simp; omega))))) (by assumption)).mono ?_; rintro e w5 ⟨rfl, hb5⟩
  have hz5 := hb5.size; (try simp at hz5); obtain ⟨hc5, hf5⟩ := bcell hb5; have hB5 := below_step (w := w) hb5 (by repeat (first | assumption | exact Below.refl _ _ | refine below_al ?_ | refine below_drewN' ?_ _ | (refine below_set ?_ ?_; rotate_left; (simp; omega))))
  have le_w_w5 : w.heap.size ≤ w5.heap.size := by omega
  try have lt_w_w5 : w.heap.size < w5.heap.size := by omega
  have le1_w_w5 : w.heap.size + 1 ≤ w5.heap.size := by omega
  try have lt1_w_w5 : w.heap.size + 1 < w5.heap.size := by omega
  have le_w1_w5 : w1.heap.size ≤ w5.heap.size := by omega
  try have lt_w1_w5 : w1.heap.size < w5.heap.size := by omega
  have le_w2_w5 : w2.heap.size ≤ w5.heap.size := by omega
  try have lt_w2_w5 : w2.heap.size < w5.heap.size := by omega
  have le_w3_w5 : w3.heap.size ≤ w5.heap.size := by omega
  try have lt_w3_w5 : w3.heap.size < w5.heap.size := by omega
  have le_w4_w5 : w4.heap.size ≤ w5.heap.size := by omega
  try have lt_w4_w5 : w4.heap.size < w5.heap.size := by omega
  go_wp2_with fail
  go_ret
  exact ⟨rfl, by repeat (first | assumption | exact Below.refl _ _ | refine below_al ?_ | refine below_drewN' ?_ _ | (refine below_set ?_ ?_; rotate_left; (simp; omega)))⟩
set_option maxHeartbeats 1000000 in
theorem civilOrder_dgt (y m d d' : Int) (h : Cal.mayB y m d = true) (h' : Cal.mayB y m d' = true) (g : d' < d) (w : World) (hL : Laid w) : Calls Tryd.prog 10 #[.agg #[.int .i64 y, .int .i64 m, .int .i64 d], .agg #[.int .i64 y, .int .i64 m, .int .i64 d']] w fun e w' => e = .returned (.bool true) ∧ Below w.heap.size w w' := by
  have A := Cal.day_mk h
  have B := Cal.day_mk h'
  have q1 : ¬ Cal.num y m d < Cal.num y m d' := by have := (Cal.lt_iff B A).2 (by omega); omega
  have q2 : (Cal.num y m d == Cal.num y m d') = false := beq_eq_false_iff_ne.2 (by have := (Cal.lt_iff B A).2 (by omega); omega)
  have nd : (d == d') = false := beq_eq_false_iff_ne.2 (by omega)
  have ld : ¬ d < d' := by omega
  clear g
  clear A B
  have hB : Below w.heap.size w w := Below.refl _ _
  go_enter Tryd.func10, Tryd.ntmps10
  go_wp2_with fail
  refine (shown04_c _ (hL.below (by repeat (first | assumption | exact Below.refl _ _ | refine below_al ?_ | refine below_drewN' ?_ _ | (refine below_set ?_ ?_; rotate_left; (simp; omega)))))).mono ?_; rintro e w1 ⟨rfl, hb1⟩
  have hz1 := hb1.size; (try simp at hz1); obtain ⟨hc1, hf1⟩ := bcell hb1; have hB1 := below_step (w := w) hb1 (by repeat (first | assumption | exact Below.refl _ _ | refine below_al ?_ | refine below_drewN' ?_ _ | (refine below_set ?_ ?_; rotate_left; (simp; omega))))
  have le_w_w1 : w.heap.size ≤ w1.heap.size := by omega
  try have lt_w_w1 : w.heap.size < w1.heap.size := by omega
  have le1_w_w1 : w.heap.size + 1 ≤ w1.heap.size := by omega
  try have lt1_w_w1 : w.heap.size + 1 < w1.heap.size := by omega
  go_wp2_with fail
  refine (rmay_c _ _ _ _).mono ?_; rintro e w2 ⟨rfl, hb2⟩
  have hz2 := hb2.size; (try simp at hz2); obtain ⟨hc2, hf2⟩ := bcell hb2; have hB2 := below_step (w := w) hb2 (by repeat (first | assumption | exact Below.refl _ _ | refine below_al ?_ | refine below_drewN' ?_ _ | (refine below_set ?_ ?_; rotate_left; (simp; omega))))
  have le_w_w2 : w.heap.size ≤ w2.heap.size := by omega
  try have lt_w_w2 : w.heap.size < w2.heap.size := by omega
  have le1_w_w2 : w.heap.size + 1 ≤ w2.heap.size := by omega
  try have lt1_w_w2 : w.heap.size + 1 < w2.heap.size := by omega
  have le_w1_w2 : w1.heap.size ≤ w2.heap.size := by omega
  try have lt_w1_w2 : w1.heap.size < w2.heap.size := by omega
  go_wp2_with fail
  refine (rmay_c _ _ _ _).mono ?_; rintro e w3 ⟨rfl, hb3⟩
  have hz3 := hb3.size; (try simp at hz3); obtain ⟨hc3, hf3⟩ := bcell hb3; have hB3 := below_step (w := w) hb3 (by repeat (first | assumption | exact Below.refl _ _ | refine below_al ?_ | refine below_drewN' ?_ _ | (refine below_set ?_ ?_; rotate_left; (simp; omega))))
  have le_w_w3 : w.heap.size ≤ w3.heap.size := by omega
  try have lt_w_w3 : w.heap.size < w3.heap.size := by omega
  have le1_w_w3 : w.heap.size + 1 ≤ w3.heap.size := by omega
  try have lt1_w_w3 : w.heap.size + 1 < w3.heap.size := by omega
  have le_w1_w3 : w1.heap.size ≤ w3.heap.size := by omega
  try have lt_w1_w3 : w1.heap.size < w3.heap.size := by omega
  have le_w2_w3 : w2.heap.size ≤ w3.heap.size := by omega
  try have lt_w2_w3 : w2.heap.size < w3.heap.size := by omega
  go_wp2_with fail
  refine (number_yes _ _ _ _ (hL.below (by repeat (first | assumption | exact Below.refl _ _ | refine below_al ?_ | refine below_drewN' ?_ _ | (refine below_set ?_ ?_; rotate_left; (simp; omega))))) (by assumption)).mono ?_; rintro e w4 ⟨rfl, hb4⟩
  have hz4 := hb4.size; (try simp at hz4); obtain ⟨hc4, hf4⟩ := bcell hb4; have hB4 := below_step (w := w) hb4 (by repeat (first | assumption | exact Below.refl _ _ | refine below_al ?_ | refine below_drewN' ?_ _ | (refine below_set ?_ ?_; rotate_left; (simp; omega))))
  have le_w_w4 : w.heap.size ≤ w4.heap.size := by omega
  try have lt_w_w4 : w.heap.size < w4.heap.size := by omega
  have le1_w_w4 : w.heap.size + 1 ≤ w4.heap.size := by omega
  try have lt1_w_w4 : w.heap.size + 1 < w4.heap.size := by omega
  have le_w1_w4 : w1.heap.size ≤ w4.heap.size := by omega
  try have lt_w1_w4 : w1.heap.size < w4.heap.size := by omega
  have le_w2_w4 : w2.heap.size ≤ w4.heap.size := by omega
  try have lt_w2_w4 : w2.heap.size < w4.heap.size := by omega
  have le_w3_w4 : w3.heap.size ≤ w4.heap.size := by omega
  try have lt_w3_w4 : w3.heap.size < w4.heap.size := by omega
  go_wp2_with fail
  refine (number_yes _ _ _ _ (hL.below (by repeat (first | assumption | exact Below.refl _ _ | refine below_al ?_ | refine below_drewN' ?_ _ | (refine below_set ?_ ?_; rotate_left; (simp; omega))))) (by assumption)).mono ?_; rintro e w5 ⟨rfl, hb5⟩
  have hz5 := hb5.size; (try simp at hz5); obtain ⟨hc5, hf5⟩ := bcell hb5; have hB5 := below_step (w := w) hb5 (by repeat (first | assumption | exact Below.refl _ _ | refine below_al ?_ | refine below_drewN' ?_ _ | (refine below_set ?_ ?_; rotate_left; (simp; omega))))
  have le_w_w5 : w.heap.size ≤ w5.heap.size := by omega
  try have lt_w_w5 : w.heap.size < w5.heap.size := by omega
  have le1_w_w5 : w.heap.size + 1 ≤ w5.heap.size := by omega
  try have lt1_w_w5 : w.heap.size + 1 < w5.heap.size := by omega
  have le_w1_w5 : w1.heap.size ≤ w5.heap.size := by omega
  try have lt_w1_w5 : w1.heap.size < w5.heap.size := by omega
  have le_w2_w5 : w2.heap.size ≤ w5.heap.size := by omega
  try have lt_w2_w5 : w2.heap.size < w5.heap.size := by omega
  have le_w3_w5 : w3.heap.size ≤ w5.heap.size := by omega
  try have lt_w3_w5 : w3.heap.size < w5.heap.size := by omega
  have le_w4_w5 : w4.heap.size ≤ w5.heap.size := by omega
  try have lt_w4_w5 : w4.heap.size < w5.heap.size := by omega
  go_wp2_with fail
  go_ret
  exact ⟨rfl, by repeat (first | assumption | exact Below.refl _ _ | refine below_al ?_ | refine below_drewN' ?_ _ | (refine below_set ?_ ?_; rotate_left; (simp; omega)))⟩
set_option maxHeartbeats 1000000 in
theorem civilOrder_eq (y m d : Int) (h : Cal.mayB y m d = true) (w : World) (hL : Laid w) : Calls Tryd.prog 10 #[.agg #[.int .i64 y, .int .i64 m, .int .i64 d], .agg #[.int .i64 y, .int .i64 m, .int .i64 d]] w fun e w' => e = .returned (.bool true) ∧ Below w.heap.size w w' := by
  have hB : Below w.heap.size w w := Below.refl _ _
  go_enter Tryd.func10, Tryd.ntmps10
  go_wp2_with fail
  refine (shown04_c _ (hL.below (by repeat (first | assumption | exact Below.refl _ _ | refine below_al ?_ | refine below_drewN' ?_ _ | (refine below_set ?_ ?_; rotate_left; (simp; omega)))))).mono ?_; rintro e w1 ⟨rfl, hb1⟩
  have hz1 := hb1.size; (try simp at hz1); obtain ⟨hc1, hf1⟩ := bcell hb1; have hB1 := below_step (w := w) hb1 (by repeat (first | assumption | exact Below.refl _ _ | refine below_al ?_ | refine below_drewN' ?_ _ | (refine below_set ?_ ?_; rotate_left; (simp; omega))))
  have le_w_w1 : w.heap.size ≤ w1.heap.size := by omega
  try have lt_w_w1 : w.heap.size < w1.heap.size := by omega
  have le1_w_w1 : w.heap.size + 1 ≤ w1.heap.size := by omega
  try have lt1_w_w1 : w.heap.size + 1 < w1.heap.size := by omega
  go_wp2_with fail
  refine (rmay_c _ _ _ _).mono ?_; rintro e w2 ⟨rfl, hb2⟩
  have hz2 := hb2.size; (try simp at hz2); obtain ⟨hc2, hf2⟩ := bcell hb2; have hB2 := below_step (w := w) hb2 (by repeat (first | assumption | exact Below.refl _ _ | refine below_al ?_ | refine below_drewN' ?_ _ | (refine below_set ?_ ?_; rotate_left; (simp; omega))))
  have le_w_w2 : w.heap.size ≤ w2.heap.size := by omega
  try have lt_w_w2 : w.heap.size < w2.heap.size := by omega
  have le1_w_w2 : w.heap.size + 1 ≤ w2.heap.size := by omega
  try have lt1_w_w2 : w.heap.size + 1 < w2.heap.size := by omega
  have le_w1_w2 : w1.heap.size ≤ w2.heap.size := by omega
  try have lt_w1_w2 : w1.heap.size < w2.heap.size := by omega
  go_wp2_with fail
  refine (rmay_c _ _ _ _).mono ?_; rintro e w3 ⟨rfl, hb3⟩
  have hz3 := hb3.size; (try simp at hz3); obtain ⟨hc3, hf3⟩ := bcell hb3; have hB3 := below_step (w := w) hb3 (by repeat (first | assumption | exact Below.refl _ _ | refine below_al ?_ | refine below_drewN' ?_ _ | (refine below_set ?_ ?_; rotate_left; (simp; omega))))
  have le_w_w3 : w.heap.size ≤ w3.heap.size := by omega
  try have lt_w_w3 : w.heap.size < w3.heap.size := by omega
  have le1_w_w3 : w.heap.size + 1 ≤ w3.heap.size := by omega
  try have lt1_w_w3 : w.heap.size + 1 < w3.heap.size := by omega
  have le_w1_w3 : w1.heap.size ≤ w3.heap.size := by omega
  try have lt_w1_w3 : w1.heap.size < w3.heap.size := by omega
  have le_w2_w3 : w2.heap.size ≤ w3.heap.size := by omega
  try have lt_w2_w3 : w2.heap.size < w3.heap.size := by omega
  go_wp2_with fail
  refine (number_yes _ _ _ _ (hL.below (by repeat (first | assumption | exact Below.refl _ _ | refine below_al ?_ | refine below_drewN' ?_ _ | (refine below_set ?_ ?_; rotate_left; (simp; omega))))) (by assumption)).mono ?_; rintro e w4 ⟨rfl, hb4⟩
  have hz4 := hb4.size; (try simp at hz4); obtain ⟨hc4, hf4⟩ := bcell hb4; have hB4 := below_step (w := w) hb4 (by repeat (first | assumption | exact Below.refl _ _ | refine below_al ?_ | refine below_drewN' ?_ _ | (refine below_set ?_ ?_; rotate_left; (simp; omega))))
  have le_w_w4 : w.heap.size ≤ w4.heap.size := by omega
  try have lt_w_w4 : w.heap.size < w4.heap.size := by omega
  have le1_w_w4 : w.heap.size + 1 ≤ w4.heap.size := by omega
  try have lt1_w_w4 : w.heap.size + 1 < w4.heap.size := by omega
  have le_w1_w4 : w1.heap.size ≤ w4.heap.size := by omega
  try have lt_w1_w4 : w1.heap.size < w4.heap.size := by omega
  have le_w2_w4 : w2.heap.size ≤ w4.heap.size := by omega
  try have lt_w2_w4 : w2.heap.size < w4.heap.size := by omega
  have le_w3_w4 : w3.heap.size ≤ w4.heap.size := by omega
  try have lt_w3_w4 : w3.heap.size < w4.heap.size := by omega
  go_wp2_with fail
  refine (number_yes _ _ _ _ (hL.below (by repeat (first | assumption | exact Below.refl _ _ | refine below_al ?_ | refine below_drewN' ?_ _ | (refine below_set ?_ ?_; rotate_left; (simp; omega))))) (by assumption)).mono ?_; rintro e w5 ⟨rfl, hb5⟩
  have hz5 := hb5.size; (try simp at hz5); obtain ⟨hc5, hf5⟩ := bcell hb5; have hB5 := below_step (w := w) hb5 (by repeat (first | assumption | exact Below.refl _ _ | refine below_al ?_ | refine below_drewN' ?_ _ | (refine below_set ?_ ?_; rotate_left; (simp; omega))))
  have le_w_w5 : w.heap.size ≤ w5.heap.size := by omega
  try have lt_w_w5 : w.heap.size < w5.heap.size := by omega
  have le1_w_w5 : w.heap.size + 1 ≤ w5.heap.size := by omega
  try have lt1_w_w5 : w.heap.size + 1 < w5.heap.size := by omega
  have le_w1_w5 : w1.heap.size ≤ w5.heap.size := by omega
  try have lt_w1_w5 : w1.heap.size < w5.heap.size := by omega
  have le_w2_w5 : w2.heap.size ≤ w5.heap.size := by omega
  try have lt_w2_w5 : w2.heap.size < w5.heap.size := by omega
  have le_w3_w5 : w3.heap.size ≤ w5.heap.size := by omega
  try have lt_w3_w5 : w3.heap.size < w5.heap.size := by omega
  have le_w4_w5 : w4.heap.size ≤ w5.heap.size := by omega
  try have lt_w4_w5 : w4.heap.size < w5.heap.size := by omega
  go_wp2_with fail
  go_ret
  exact ⟨rfl, by repeat (first | assumption | exact Below.refl _ _ | refine below_al ?_ | refine below_drewN' ?_ _ | (refine below_set ?_ ?_; rotate_left; (simp; omega)))⟩
theorem civilOrder_walk (y m d y' m' d' : Int) (w : World) (hL : Laid w) : Calls Tryd.prog 10 #[.agg #[.int .i64 y, .int .i64 m, .int .i64 d], .agg #[.int .i64 y', .int .i64 m', .int .i64 d']] w fun e w' => e = .returned (.bool true) ∧ Below w.heap.size w w' := by
  cases h : Cal.mayB y m d
  · exact civilOrder_na y m d y' m' d' h w hL
  cases h' : Cal.mayB y' m' d'
  · exact civilOrder_nb y m d y' m' d' h h' w hL
  by_cases a : y < y'
  · exact civilOrder_ylt y m d y' m' d' h h' a w hL
  by_cases a' : y' < y
  · exact civilOrder_ygt y m d y' m' d' h h' a' w hL
  obtain rfl : y = y' := by omega
  by_cases b : m < m'
  · exact civilOrder_mlt y m d m' d' h h' b w hL
  by_cases b' : m' < m
  · exact civilOrder_mgt y m d m' d' h h' b' w hL
  obtain rfl : m = m' := by omega
  by_cases c : d < d'
  · exact civilOrder_dlt y m d d' h h' c w hL
  by_cases c' : d' < d
  · exact civilOrder_dgt y m d d' h h' c' w hL
  obtain rfl : d = d' := by omega
  exact civilOrder_eq y m d h w hL
end Go.Proofs.YtfcapdifenbcnaaDoor
