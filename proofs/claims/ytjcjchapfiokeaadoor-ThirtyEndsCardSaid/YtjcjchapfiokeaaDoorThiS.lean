/- The head of the statements on months of 30 days: the document's examples hold. Conditions: the table of months' lengths lies as the program's text lays it. -/
import Derived.Test.YtjcjchapfiokeaaDoorThiD
import Derived.Test.YtjcjchapfiokeaaDoorDay
namespace Go.Proofs.YtjcjchapfiokeaaDoor
open Go.RowKit
set_option linter.unusedVariables false
namespace Thi
theorem max0 (n : Nat) : (max 0 (n : Int)).toNat = n := by omega
theorem su1 : prN (usN 738916 738976 false) 738916 738976 = 1 ∧ prD (usN 738916 738976 false) 738916 738976 = 6 ∧ prE 738916 738976 = 0 := by decide +kernel
theorem se1 : prN (eN 738916 738976) 738916 738976 = 1 ∧ prD (eN 738916 738976) 738916 738976 = 6 ∧ prE 738916 738976 = 0 := by decide +kernel
theorem si1 : prN (isN 738916 738976 0) 738916 738976 = 1 ∧ prD (isN 738916 738976 0) 738916 738976 = 6 ∧ prE 738916 738976 = 0 := by decide +kernel
theorem se2 : prN (eN 738579 738610) 738579 738610 = 4 ∧ prD (eN 738579 738610) 738579 738610 = 45 ∧ prE 738579 738610 = 0 := by decide +kernel
theorem si2 : prN (isN 738579 738610 0) 738579 738610 = 1 ∧ prD (isN 738579 738610 0) 738579 738610 = 12 ∧ prE 738579 738610 = 0 := by decide +kernel
theorem se3 : prN (eN 738976 738916) 738976 738916 = 0 ∧ prD (eN 738976 738916) 738976 738916 = 0 ∧ prE 738976 738916 = 4 := by decide +kernel
theorem su2 : prN (usN 0 738916 true) 0 738916 = 0 ∧ prD (usN 0 738916 true) 0 738916 = 0 ∧ prE 0 738916 = 3 := by decide +kernel
end Thi
theorem xu1 (w : World) (hL : Laid w) : Calls Tryd.prog 30 #[.int .i64 738916, .int .i64 738976, .bool false] w fun e w' => e = .returned (.tuple #[.agg #[.int .i64 1, .int .i64 6], .int .i64 0]) ∧ Below w.heap.size w w' := by
  have h := tus_c 738916 738976 false w hL
  rw [Thi.su1.1, Thi.su1.2.1, Thi.su1.2.2] at h; exact h
theorem xe1 (w : World) (hL : Laid w) : Calls Tryd.prog 32 #[.int .i64 738916, .int .i64 738976] w fun e w' => e = .returned (.tuple #[.agg #[.int .i64 1, .int .i64 6], .int .i64 0]) ∧ Below w.heap.size w w' := by
  have h := te_c 738916 738976 w hL
  rw [Thi.se1.1, Thi.se1.2.1, Thi.se1.2.2] at h; exact h
theorem xi1 (w : World) (hL : Laid w) : Calls Tryd.prog 34 #[.int .i64 738916, .int .i64 738976, .int .i64 0] w fun e w' => e = .returned (.tuple #[.agg #[.int .i64 1, .int .i64 6], .int .i64 0]) ∧ Below w.heap.size w w' := by
  have h := tis_c 738916 738976 0 w hL
  rw [Thi.si1.1, Thi.si1.2.1, Thi.si1.2.2] at h; exact h
theorem xe2 (w : World) (hL : Laid w) : Calls Tryd.prog 32 #[.int .i64 738579, .int .i64 738610] w fun e w' => e = .returned (.tuple #[.agg #[.int .i64 4, .int .i64 45], .int .i64 0]) ∧ Below w.heap.size w w' := by
  have h := te_c 738579 738610 w hL
  rw [Thi.se2.1, Thi.se2.2.1, Thi.se2.2.2] at h; exact h
theorem xi2 (w : World) (hL : Laid w) : Calls Tryd.prog 34 #[.int .i64 738579, .int .i64 738610, .int .i64 0] w fun e w' => e = .returned (.tuple #[.agg #[.int .i64 1, .int .i64 12], .int .i64 0]) ∧ Below w.heap.size w w' := by
  have h := tis_c 738579 738610 0 w hL
  rw [Thi.si2.1, Thi.si2.2.1, Thi.si2.2.2] at h; exact h
theorem xe3 (w : World) (hL : Laid w) : Calls Tryd.prog 32 #[.int .i64 738976, .int .i64 738916] w fun e w' => e = .returned (.tuple #[.agg #[.int .i64 0, .int .i64 0], .int .i64 4]) ∧ Below w.heap.size w w' := by
  have h := te_c 738976 738916 w hL
  rw [Thi.se3.1, Thi.se3.2.1, Thi.se3.2.2] at h; exact h
theorem xu2 (w : World) (hL : Laid w) : Calls Tryd.prog 30 #[.int .i64 0, .int .i64 738916, .bool true] w fun e w' => e = .returned (.tuple #[.agg #[.int .i64 0, .int .i64 0], .int .i64 3]) ∧ Below w.heap.size w w' := by
  have h := tus_c 0 738916 true w hL
  rw [Thi.su2.1, Thi.su2.2.1, Thi.su2.2.2] at h; exact h
set_option maxHeartbeats 4000000 in
theorem shown07_c (w : World) (hL : Laid w) : Calls Tryd.prog 29 #[] w fun e w' => e = .returned (.bool true) ∧ Below w.heap.size w w' := by
  have a1 : numV 2024 1 31 = 738916 := by decide
  have a2 : numV 2024 3 31 = 738976 := by decide
  have a3 : numV 2023 2 28 = 738579 := by decide
  have a4 : numV 2023 3 31 = 738610 := by decide
  have hB : Below w.heap.size w w := Below.refl _ _
  go_enter Tryd.func29, Tryd.ntmps29
  go_wp2_with fail
  refine (day07_c _ _ _ _).mono ?_; rintro e w1 ⟨rfl, hb1⟩
  have hz1 := hb1.size; (try simp at hz1); obtain ⟨hc1, hf1⟩ := bcell hb1; have hB1 := below_step (w := w) hb1 (by repeat (first | assumption | exact Below.refl _ _ | (with_reducible refine Below.drew ?_) | (with_reducible refine below_drewN' ?_ _) | (with_reducible refine below_al ?_) | ((with_reducible refine below_set ?_ ?_); rotate_left; focus (first | (simp; done) | (simp; omega)))))
  have le_w_w1 : w.heap.size ≤ w1.heap.size := by omega
  try have lt_w_w1 : w.heap.size < w1.heap.size := by omega
  go_wp2_with fail
  refine (day07_c _ _ _ _).mono ?_; rintro e w2 ⟨rfl, hb2⟩
  have hz2 := hb2.size; (try simp at hz2); obtain ⟨hc2, hf2⟩ := bcell hb2; have hB2 := below_step (w := w) hb2 (by repeat (first | assumption | exact Below.refl _ _ | (with_reducible refine Below.drew ?_) | (with_reducible refine below_drewN' ?_ _) | (with_reducible refine below_al ?_) | ((with_reducible refine below_set ?_ ?_); rotate_left; focus (first | (simp; done) | (simp; omega)))))
  have le_w_w2 : w.heap.size ≤ w2.heap.size := by omega
  try have lt_w_w2 : w.heap.size < w2.heap.size := by omega
  have le_w1_w2 : w1.heap.size ≤ w2.heap.size := by omega
  try have lt_w1_w2 : w1.heap.size < w2.heap.size := by omega
  go_wp2_with fail
  refine (xu1 _ (hL.below (by repeat (first | assumption | exact Below.refl _ _ | (with_reducible refine Below.drew ?_) | (with_reducible refine below_drewN' ?_ _) | (with_reducible refine below_al ?_) | ((with_reducible refine below_set ?_ ?_); rotate_left; focus (first | (simp; done) | (simp; omega))))))).mono ?_; rintro e w3 ⟨rfl, hb3⟩
  have hz3 := hb3.size; (try simp at hz3); obtain ⟨hc3, hf3⟩ := bcell hb3; have hB3 := below_step (w := w) hb3 (by repeat (first | assumption | exact Below.refl _ _ | (with_reducible refine Below.drew ?_) | (with_reducible refine below_drewN' ?_ _) | (with_reducible refine below_al ?_) | ((with_reducible refine below_set ?_ ?_); rotate_left; focus (first | (simp; done) | (simp; omega)))))
  have le_w_w3 : w.heap.size ≤ w3.heap.size := by omega
  try have lt_w_w3 : w.heap.size < w3.heap.size := by omega
  have le_w1_w3 : w1.heap.size ≤ w3.heap.size := by omega
  try have lt_w1_w3 : w1.heap.size < w3.heap.size := by omega
  have le_w2_w3 : w2.heap.size ≤ w3.heap.size := by omega
  try have lt_w2_w3 : w2.heap.size < w3.heap.size := by omega
  go_wp2_with fail
  refine (xe1 _ (hL.below (by repeat (first | assumption | exact Below.refl _ _ | (with_reducible refine Below.drew ?_) | (with_reducible refine below_drewN' ?_ _) | (with_reducible refine below_al ?_) | ((with_reducible refine below_set ?_ ?_); rotate_left; focus (first | (simp; done) | (simp; omega))))))).mono ?_; rintro e w4 ⟨rfl, hb4⟩
  have hz4 := hb4.size; (try simp at hz4); obtain ⟨hc4, hf4⟩ := bcell hb4; have hB4 := below_step (w := w) hb4 (by repeat (first | assumption | exact Below.refl _ _ | (with_reducible refine Below.drew ?_) | (with_reducible refine below_drewN' ?_ _) | (with_reducible refine below_al ?_) | ((with_reducible refine below_set ?_ ?_); rotate_left; focus (first | (simp; done) | (simp; omega)))))
  have le_w_w4 : w.heap.size ≤ w4.heap.size := by omega
  try have lt_w_w4 : w.heap.size < w4.heap.size := by omega
  have le_w1_w4 : w1.heap.size ≤ w4.heap.size := by omega
  try have lt_w1_w4 : w1.heap.size < w4.heap.size := by omega
  have le_w2_w4 : w2.heap.size ≤ w4.heap.size := by omega
  try have lt_w2_w4 : w2.heap.size < w4.heap.size := by omega
  have le_w3_w4 : w3.heap.size ≤ w4.heap.size := by omega
  try have lt_w3_w4 : w3.heap.size < w4.heap.size := by omega
  go_wp2_with fail
  refine (xi1 _ (hL.below (by repeat (first | assumption | exact Below.refl _ _ | (with_reducible refine Below.drew ?_) | (with_reducible refine below_drewN' ?_ _) | (with_reducible refine below_al ?_) | ((with_reducible refine below_set ?_ ?_); rotate_left; focus (first | (simp; done) | (simp; omega))))))).mono ?_; rintro e w5 ⟨rfl, hb5⟩
  have hz5 := hb5.size; (try simp at hz5); obtain ⟨hc5, hf5⟩ := bcell hb5; have hB5 := below_step (w := w) hb5 (by repeat (first | assumption | exact Below.refl _ _ | (with_reducible refine Below.drew ?_) | (with_reducible refine below_drewN' ?_ _) | (with_reducible refine below_al ?_) | ((with_reducible refine below_set ?_ ?_); rotate_left; focus (first | (simp; done) | (simp; omega)))))
  have le_w_w5 : w.heap.size ≤ w5.heap.size := by omega
  try have lt_w_w5 : w.heap.size < w5.heap.size := by omega
  have le_w1_w5 : w1.heap.size ≤ w5.heap.size := by omega
  try have lt_w1_w5 : w1.heap.size < w5.heap.size := by omega
  have le_w2_w5 : w2.heap.size ≤ w5.heap.size := by omega
  try have lt_w2_w5 : w2.heap.size < w5.heap.size := by omega
  have le_w3_w5 : w3.heap.size ≤ w5.heap.size := by omega
  try have lt_w3_w5 : w3.heap.size < w5.heap.size := by omega
  have le_w4_w5 : w4.heap.size ≤ w5.heap.size := by omega
  try have lt_w4_w5 : w4.heap.size < w5.heap.size := by omega
  go_wp2_with fail
  refine (day07_c _ _ _ _).mono ?_; rintro e w6 ⟨rfl, hb6⟩
  have hz6 := hb6.size; (try simp at hz6); obtain ⟨hc6, hf6⟩ := bcell hb6; have hB6 := below_step (w := w) hb6 (by repeat (first | assumption | exact Below.refl _ _ | (with_reducible refine Below.drew ?_) | (with_reducible refine below_drewN' ?_ _) | (with_reducible refine below_al ?_) | ((with_reducible refine below_set ?_ ?_); rotate_left; focus (first | (simp; done) | (simp; omega)))))
  have le_w_w6 : w.heap.size ≤ w6.heap.size := by omega
  try have lt_w_w6 : w.heap.size < w6.heap.size := by omega
  have le_w1_w6 : w1.heap.size ≤ w6.heap.size := by omega
  try have lt_w1_w6 : w1.heap.size < w6.heap.size := by omega
  have le_w2_w6 : w2.heap.size ≤ w6.heap.size := by omega
  try have lt_w2_w6 : w2.heap.size < w6.heap.size := by omega
  have le_w3_w6 : w3.heap.size ≤ w6.heap.size := by omega
  try have lt_w3_w6 : w3.heap.size < w6.heap.size := by omega
  have le_w4_w6 : w4.heap.size ≤ w6.heap.size := by omega
  try have lt_w4_w6 : w4.heap.size < w6.heap.size := by omega
  have le_w5_w6 : w5.heap.size ≤ w6.heap.size := by omega
  try have lt_w5_w6 : w5.heap.size < w6.heap.size := by omega
  go_wp2_with fail
  refine (day07_c _ _ _ _).mono ?_; rintro e w7 ⟨rfl, hb7⟩
  have hz7 := hb7.size; (try simp at hz7); obtain ⟨hc7, hf7⟩ := bcell hb7; have hB7 := below_step (w := w) hb7 (by repeat (first | assumption | exact Below.refl _ _ | (with_reducible refine Below.drew ?_) | (with_reducible refine below_drewN' ?_ _) | (with_reducible refine below_al ?_) | ((with_reducible refine below_set ?_ ?_); rotate_left; focus (first | (simp; done) | (simp; omega)))))
  have le_w_w7 : w.heap.size ≤ w7.heap.size := by omega
  try have lt_w_w7 : w.heap.size < w7.heap.size := by omega
  have le_w1_w7 : w1.heap.size ≤ w7.heap.size := by omega
  try have lt_w1_w7 : w1.heap.size < w7.heap.size := by omega
  have le_w2_w7 : w2.heap.size ≤ w7.heap.size := by omega
  try have lt_w2_w7 : w2.heap.size < w7.heap.size := by omega
  have le_w3_w7 : w3.heap.size ≤ w7.heap.size := by omega
  try have lt_w3_w7 : w3.heap.size < w7.heap.size := by omega
  have le_w4_w7 : w4.heap.size ≤ w7.heap.size := by omega
  try have lt_w4_w7 : w4.heap.size < w7.heap.size := by omega
  have le_w5_w7 : w5.heap.size ≤ w7.heap.size := by omega
  try have lt_w5_w7 : w5.heap.size < w7.heap.size := by omega
  have le_w6_w7 : w6.heap.size ≤ w7.heap.size := by omega
  try have lt_w6_w7 : w6.heap.size < w7.heap.size := by omega
  go_wp2_with fail
  refine (xe2 _ (hL.below (by repeat (first | assumption | exact Below.refl _ _ | (with_reducible refine Below.drew ?_) | (with_reducible refine below_drewN' ?_ _) | (with_reducible refine below_al ?_) | ((with_reducible refine below_set ?_ ?_); rotate_left; focus (first | (simp; done) | (simp; omega))))))).mono ?_; rintro e w8 ⟨rfl, hb8⟩
  have hz8 := hb8.size; (try simp at hz8); obtain ⟨hc8, hf8⟩ := bcell hb8; have hB8 := below_step (w := w) hb8 (by repeat (first | assumption | exact Below.refl _ _ | (with_reducible refine Below.drew ?_) | (with_reducible refine below_drewN' ?_ _) | (with_reducible refine below_al ?_) | ((with_reducible refine below_set ?_ ?_); rotate_left; focus (first | (simp; done) | (simp; omega)))))
  have le_w_w8 : w.heap.size ≤ w8.heap.size := by omega
  try have lt_w_w8 : w.heap.size < w8.heap.size := by omega
  have le_w1_w8 : w1.heap.size ≤ w8.heap.size := by omega
  try have lt_w1_w8 : w1.heap.size < w8.heap.size := by omega
  have le_w2_w8 : w2.heap.size ≤ w8.heap.size := by omega
  try have lt_w2_w8 : w2.heap.size < w8.heap.size := by omega
  have le_w3_w8 : w3.heap.size ≤ w8.heap.size := by omega
  try have lt_w3_w8 : w3.heap.size < w8.heap.size := by omega
  have le_w4_w8 : w4.heap.size ≤ w8.heap.size := by omega
  try have lt_w4_w8 : w4.heap.size < w8.heap.size := by omega
  have le_w5_w8 : w5.heap.size ≤ w8.heap.size := by omega
  try have lt_w5_w8 : w5.heap.size < w8.heap.size := by omega
  have le_w6_w8 : w6.heap.size ≤ w8.heap.size := by omega
  try have lt_w6_w8 : w6.heap.size < w8.heap.size := by omega
  have le_w7_w8 : w7.heap.size ≤ w8.heap.size := by omega
  try have lt_w7_w8 : w7.heap.size < w8.heap.size := by omega
  go_wp2_with fail
  refine (day07_c _ _ _ _).mono ?_; rintro e w9 ⟨rfl, hb9⟩
  have hz9 := hb9.size; (try simp at hz9); obtain ⟨hc9, hf9⟩ := bcell hb9; have hB9 := below_step (w := w) hb9 (by repeat (first | assumption | exact Below.refl _ _ | (with_reducible refine Below.drew ?_) | (with_reducible refine below_drewN' ?_ _) | (with_reducible refine below_al ?_) | ((with_reducible refine below_set ?_ ?_); rotate_left; focus (first | (simp; done) | (simp; omega)))))
  have le_w_w9 : w.heap.size ≤ w9.heap.size := by omega
  try have lt_w_w9 : w.heap.size < w9.heap.size := by omega
  have le_w1_w9 : w1.heap.size ≤ w9.heap.size := by omega
  try have lt_w1_w9 : w1.heap.size < w9.heap.size := by omega
  have le_w2_w9 : w2.heap.size ≤ w9.heap.size := by omega
  try have lt_w2_w9 : w2.heap.size < w9.heap.size := by omega
  have le_w3_w9 : w3.heap.size ≤ w9.heap.size := by omega
  try have lt_w3_w9 : w3.heap.size < w9.heap.size := by omega
  have le_w4_w9 : w4.heap.size ≤ w9.heap.size := by omega
  try have lt_w4_w9 : w4.heap.size < w9.heap.size := by omega
  have le_w5_w9 : w5.heap.size ≤ w9.heap.size := by omega
  try have lt_w5_w9 : w5.heap.size < w9.heap.size := by omega
  have le_w6_w9 : w6.heap.size ≤ w9.heap.size := by omega
  try have lt_w6_w9 : w6.heap.size < w9.heap.size := by omega
  have le_w7_w9 : w7.heap.size ≤ w9.heap.size := by omega
  try have lt_w7_w9 : w7.heap.size < w9.heap.size := by omega
  have le_w8_w9 : w8.heap.size ≤ w9.heap.size := by omega
  try have lt_w8_w9 : w8.heap.size < w9.heap.size := by omega
  go_wp2_with fail
  refine (day07_c _ _ _ _).mono ?_; rintro e w10 ⟨rfl, hb10⟩
  have hz10 := hb10.size; (try simp at hz10); obtain ⟨hc10, hf10⟩ := bcell hb10; have hB10 := below_step (w := w) hb10 (by repeat (first | assumption | exact Below.refl _ _ | (with_reducible refine Below.drew ?_) | (with_reducible refine below_drewN' ?_ _) | (with_reducible refine below_al ?_) | ((with_reducible refine below_set ?_ ?_); rotate_left; focus (first | (simp; done) | (simp; omega)))))
  have le_w_w10 : w.heap.size ≤ w10.heap.size := by omega
  try have lt_w_w10 : w.heap.size < w10.heap.size := by omega
  have le_w1_w10 : w1.heap.size ≤ w10.heap.size := by omega
  try have lt_w1_w10 : w1.heap.size < w10.heap.size := by omega
  have le_w2_w10 : w2.heap.size ≤ w10.heap.size := by omega
  try have lt_w2_w10 : w2.heap.size < w10.heap.size := by omega
  have le_w3_w10 : w3.heap.size ≤ w10.heap.size := by omega
  try have lt_w3_w10 : w3.heap.size < w10.heap.size := by omega
  have le_w4_w10 : w4.heap.size ≤ w10.heap.size := by omega
  try have lt_w4_w10 : w4.heap.size < w10.heap.size := by omega
  have le_w5_w10 : w5.heap.size ≤ w10.heap.size := by omega
  try have lt_w5_w10 : w5.heap.size < w10.heap.size := by omega
  have le_w6_w10 : w6.heap.size ≤ w10.heap.size := by omega
  try have lt_w6_w10 : w6.heap.size < w10.heap.size := by omega
  have le_w7_w10 : w7.heap.size ≤ w10.heap.size := by omega
  try have lt_w7_w10 : w7.heap.size < w10.heap.size := by omega
  have le_w8_w10 : w8.heap.size ≤ w10.heap.size := by omega
  try have lt_w8_w10 : w8.heap.size < w10.heap.size := by omega
  have le_w9_w10 : w9.heap.size ≤ w10.heap.size := by omega
  try have lt_w9_w10 : w9.heap.size < w10.heap.size := by omega
  go_wp2_with fail
  refine (xi2 _ (hL.below (by repeat (first | assumption | exact Below.refl _ _ | (with_reducible refine Below.drew ?_) | (with_reducible refine below_drewN' ?_ _) | (with_reducible refine below_al ?_) | ((with_reducible refine below_set ?_ ?_); rotate_left; focus (first | (simp; done) | (simp; omega))))))).mono ?_; rintro e w11 ⟨rfl, hb11⟩
  have hz11 := hb11.size; (try simp at hz11); obtain ⟨hc11, hf11⟩ := bcell hb11; have hB11 := below_step (w := w) hb11 (by repeat (first | assumption | exact Below.refl _ _ | (with_reducible refine Below.drew ?_) | (with_reducible refine below_drewN' ?_ _) | (with_reducible refine below_al ?_) | ((with_reducible refine below_set ?_ ?_); rotate_left; focus (first | (simp; done) | (simp; omega)))))
  have le_w_w11 : w.heap.size ≤ w11.heap.size := by omega
  try have lt_w_w11 : w.heap.size < w11.heap.size := by omega
  have le_w1_w11 : w1.heap.size ≤ w11.heap.size := by omega
  try have lt_w1_w11 : w1.heap.size < w11.heap.size := by omega
  have le_w2_w11 : w2.heap.size ≤ w11.heap.size := by omega
  try have lt_w2_w11 : w2.heap.size < w11.heap.size := by omega
  have le_w3_w11 : w3.heap.size ≤ w11.heap.size := by omega
  try have lt_w3_w11 : w3.heap.size < w11.heap.size := by omega
  have le_w4_w11 : w4.heap.size ≤ w11.heap.size := by omega
  try have lt_w4_w11 : w4.heap.size < w11.heap.size := by omega
  have le_w5_w11 : w5.heap.size ≤ w11.heap.size := by omega
  try have lt_w5_w11 : w5.heap.size < w11.heap.size := by omega
  have le_w6_w11 : w6.heap.size ≤ w11.heap.size := by omega
  try have lt_w6_w11 : w6.heap.size < w11.heap.size := by omega
  have le_w7_w11 : w7.heap.size ≤ w11.heap.size := by omega
  try have lt_w7_w11 : w7.heap.size < w11.heap.size := by omega
  have le_w8_w11 : w8.heap.size ≤ w11.heap.size := by omega
  try have lt_w8_w11 : w8.heap.size < w11.heap.size := by omega
  have le_w9_w11 : w9.heap.size ≤ w11.heap.size := by omega
  try have lt_w9_w11 : w9.heap.size < w11.heap.size := by omega
  have le_w10_w11 : w10.heap.size ≤ w11.heap.size := by omega
  try have lt_w10_w11 : w10.heap.size < w11.heap.size := by omega
  go_wp2_with fail
  refine (xe3 _ (hL.below (by repeat (first | assumption | exact Below.refl _ _ | (with_reducible refine Below.drew ?_) | (with_reducible refine below_drewN' ?_ _) | (with_reducible refine below_al ?_) | ((with_reducible refine below_set ?_ ?_); rotate_left; focus (first | (simp; done) | (simp; omega))))))).mono ?_; rintro e w12 ⟨rfl, hb12⟩
  have hz12 := hb12.size; (try simp at hz12); obtain ⟨hc12, hf12⟩ := bcell hb12; have hB12 := below_step (w := w) hb12 (by repeat (first | assumption | exact Below.refl _ _ | (with_reducible refine Below.drew ?_) | (with_reducible refine below_drewN' ?_ _) | (with_reducible refine below_al ?_) | ((with_reducible refine below_set ?_ ?_); rotate_left; focus (first | (simp; done) | (simp; omega)))))
  have le_w_w12 : w.heap.size ≤ w12.heap.size := by omega
  try have lt_w_w12 : w.heap.size < w12.heap.size := by omega
  have le_w1_w12 : w1.heap.size ≤ w12.heap.size := by omega
  try have lt_w1_w12 : w1.heap.size < w12.heap.size := by omega
  have le_w2_w12 : w2.heap.size ≤ w12.heap.size := by omega
  try have lt_w2_w12 : w2.heap.size < w12.heap.size := by omega
  have le_w3_w12 : w3.heap.size ≤ w12.heap.size := by omega
  try have lt_w3_w12 : w3.heap.size < w12.heap.size := by omega
  have le_w4_w12 : w4.heap.size ≤ w12.heap.size := by omega
  try have lt_w4_w12 : w4.heap.size < w12.heap.size := by omega
  have le_w5_w12 : w5.heap.size ≤ w12.heap.size := by omega
  try have lt_w5_w12 : w5.heap.size < w12.heap.size := by omega
  have le_w6_w12 : w6.heap.size ≤ w12.heap.size := by omega
  try have lt_w6_w12 : w6.heap.size < w12.heap.size := by omega
  have le_w7_w12 : w7.heap.size ≤ w12.heap.size := by omega
  try have lt_w7_w12 : w7.heap.size < w12.heap.size := by omega
  have le_w8_w12 : w8.heap.size ≤ w12.heap.size := by omega
  try have lt_w8_w12 : w8.heap.size < w12.heap.size := by omega
  have le_w9_w12 : w9.heap.size ≤ w12.heap.size := by omega
  try have lt_w9_w12 : w9.heap.size < w12.heap.size := by omega
  have le_w10_w12 : w10.heap.size ≤ w12.heap.size := by omega
  try have lt_w10_w12 : w10.heap.size < w12.heap.size := by omega
  have le_w11_w12 : w11.heap.size ≤ w12.heap.size := by omega
  try have lt_w11_w12 : w11.heap.size < w12.heap.size := by omega
  go_wp2_with fail
  refine (xu2 _ (hL.below (by repeat (first | assumption | exact Below.refl _ _ | (with_reducible refine Below.drew ?_) | (with_reducible refine below_drewN' ?_ _) | (with_reducible refine below_al ?_) | ((with_reducible refine below_set ?_ ?_); rotate_left; focus (first | (simp; done) | (simp; omega))))))).mono ?_; rintro e w13 ⟨rfl, hb13⟩
  have hz13 := hb13.size; (try simp at hz13); obtain ⟨hc13, hf13⟩ := bcell hb13; have hB13 := below_step (w := w) hb13 (by repeat (first | assumption | exact Below.refl _ _ | (with_reducible refine Below.drew ?_) | (with_reducible refine below_drewN' ?_ _) | (with_reducible refine below_al ?_) | ((with_reducible refine below_set ?_ ?_); rotate_left; focus (first | (simp; done) | (simp; omega)))))
  have le_w_w13 : w.heap.size ≤ w13.heap.size := by omega
  try have lt_w_w13 : w.heap.size < w13.heap.size := by omega
  have le_w1_w13 : w1.heap.size ≤ w13.heap.size := by omega
  try have lt_w1_w13 : w1.heap.size < w13.heap.size := by omega
  have le_w2_w13 : w2.heap.size ≤ w13.heap.size := by omega
  try have lt_w2_w13 : w2.heap.size < w13.heap.size := by omega
  have le_w3_w13 : w3.heap.size ≤ w13.heap.size := by omega
  try have lt_w3_w13 : w3.heap.size < w13.heap.size := by omega
  have le_w4_w13 : w4.heap.size ≤ w13.heap.size := by omega
  try have lt_w4_w13 : w4.heap.size < w13.heap.size := by omega
  have le_w5_w13 : w5.heap.size ≤ w13.heap.size := by omega
  try have lt_w5_w13 : w5.heap.size < w13.heap.size := by omega
  have le_w6_w13 : w6.heap.size ≤ w13.heap.size := by omega
  try have lt_w6_w13 : w6.heap.size < w13.heap.size := by omega
  have le_w7_w13 : w7.heap.size ≤ w13.heap.size := by omega
  try have lt_w7_w13 : w7.heap.size < w13.heap.size := by omega
  have le_w8_w13 : w8.heap.size ≤ w13.heap.size := by omega
  try have lt_w8_w13 : w8.heap.size < w13.heap.size := by omega
  have le_w9_w13 : w9.heap.size ≤ w13.heap.size := by omega
  try have lt_w9_w13 : w9.heap.size < w13.heap.size := by omega
  have le_w10_w13 : w10.heap.size ≤ w13.heap.size := by omega
  try have lt_w10_w13 : w10.heap.size < w13.heap.size := by omega
  have le_w11_w13 : w11.heap.size ≤ w13.heap.size := by omega
  try have lt_w11_w13 : w11.heap.size < w13.heap.size := by omega
  have le_w12_w13 : w12.heap.size ≤ w13.heap.size := by omega
  try have lt_w12_w13 : w12.heap.size < w13.heap.size := by omega
  go_wp2_with fail
  go_ret
  exact ⟨rfl, by repeat (first | assumption | exact Below.refl _ _ | (with_reducible refine Below.drew ?_) | (with_reducible refine below_drewN' ?_ _) | (with_reducible refine below_al ?_) | ((with_reducible refine below_set ?_ ?_); rotate_left; focus (first | (simp; done) | (simp; omega))))⟩
end Go.Proofs.YtjcjchapfiokeaaDoor
