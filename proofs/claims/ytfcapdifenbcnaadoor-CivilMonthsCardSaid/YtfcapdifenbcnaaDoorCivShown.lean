/- The head of the statements on days: the document's example holds. Conditions: the table of months' lengths lies as the program's text lays it. -/
import Derived.Test.YtfcapdifenbcnaaDoorCivF
namespace Go.Proofs.YtfcapdifenbcnaaDoor
open Go.RowKit

set_option maxHeartbeats 1000000 in
set_option maxRecDepth 100000 in
theorem shown04_c (w : World) (hL : Laid w) : Calls Tryd.prog 20 #[] w fun e w' => e = .returned (.bool true) ∧ Below w.heap.size w w' := by
  have a1 : numV 2024 2 29 = 738945 := by decide
  have a2 : numE 2024 2 29 = 0 := by decide
  have a3 : numE 2023 2 29 = 3 := by decide
  have b1 : ofY 738945 = 2024 := by decide
  have b2 : ofM 738945 = 2 := by decide
  have b3 : ofD 738945 = 29 := by decide
  have b4 : ofE 738945 = 0 := by decide
  have c4 : ofE 0 = 3 := by decide
  have d1 : ofY 3652059 = 9999 := by decide
  have d2 : ofM 3652059 = 12 := by decide
  have d3 : ofD 3652059 = 31 := by decide
  have d4 : ofE 3652059 = 0 := by decide
  have e1 : Cal.wd 738945 = 3 := by decide
  have e2 : Cal.wd 1 = 0 := by decide
  have e3 : Cal.wd 0 = 6 := by decide
  have f1 : Cal.leapB 2000 = true := by decide
  have f2 : Cal.leapB 1900 = false := by decide
  have g1 : Cal.len 2023 2 = 28 := by decide
  have g2 : Cal.len 2023 13 = 0 := by decide
  have m1 : Cal.mayB 2024 2 29 = true := by decide
  have m2 : Cal.mayB 0 0 0 = false := by decide
  have hB : Below w.heap.size w w := Below.refl _ _
  go_enter Tryd.func20, Tryd.ntmps20
  go_wp2_with fail
  refine (number_c _ _ _ _ (hL.below (by repeat (first | assumption | exact Below.refl _ _ | refine below_al ?_ | refine below_drewN' ?_ _ | (refine below_set ?_ ?_; rotate_left; (simp; omega)))))).mono ?_; rintro e w1 ⟨rfl, hb1⟩
  have hz1 := hb1.size; (try simp at hz1); obtain ⟨hc1, hf1⟩ := bcell hb1; have hB1 := below_step (w := w) hb1 (by repeat (first | assumption | exact Below.refl _ _ | refine below_al ?_ | refine below_drewN' ?_ _ | (refine below_set ?_ ?_; rotate_left; (simp; omega))))
  have le_w_w1 : w.heap.size ≤ w1.heap.size := by omega
  try have lt_w_w1 : w.heap.size < w1.heap.size := by omega
  go_wp2_with fail
  refine (of_c _ _ (hL.below (by repeat (first | assumption | exact Below.refl _ _ | refine below_al ?_ | refine below_drewN' ?_ _ | (refine below_set ?_ ?_; rotate_left; (simp; omega)))))).mono ?_; rintro e w2 ⟨rfl, hb2⟩
  have hz2 := hb2.size; (try simp at hz2); obtain ⟨hc2, hf2⟩ := bcell hb2; have hB2 := below_step (w := w) hb2 (by repeat (first | assumption | exact Below.refl _ _ | refine below_al ?_ | refine below_drewN' ?_ _ | (refine below_set ?_ ?_; rotate_left; (simp; omega))))
  have le_w_w2 : w.heap.size ≤ w2.heap.size := by omega
  try have lt_w_w2 : w.heap.size < w2.heap.size := by omega
  have le_w1_w2 : w1.heap.size ≤ w2.heap.size := by omega
  try have lt_w1_w2 : w1.heap.size < w2.heap.size := by omega
  go_wp2_with fail
  refine (number_c _ _ _ _ (hL.below (by repeat (first | assumption | exact Below.refl _ _ | refine below_al ?_ | refine below_drewN' ?_ _ | (refine below_set ?_ ?_; rotate_left; (simp; omega)))))).mono ?_; rintro e w3 ⟨rfl, hb3⟩
  have hz3 := hb3.size; (try simp at hz3); obtain ⟨hc3, hf3⟩ := bcell hb3; have hB3 := below_step (w := w) hb3 (by repeat (first | assumption | exact Below.refl _ _ | refine below_al ?_ | refine below_drewN' ?_ _ | (refine below_set ?_ ?_; rotate_left; (simp; omega))))
  have le_w_w3 : w.heap.size ≤ w3.heap.size := by omega
  try have lt_w_w3 : w.heap.size < w3.heap.size := by omega
  have le_w1_w3 : w1.heap.size ≤ w3.heap.size := by omega
  try have lt_w1_w3 : w1.heap.size < w3.heap.size := by omega
  have le_w2_w3 : w2.heap.size ≤ w3.heap.size := by omega
  try have lt_w2_w3 : w2.heap.size < w3.heap.size := by omega
  go_wp2_with fail
  refine (of_c _ _ (hL.below (by repeat (first | assumption | exact Below.refl _ _ | refine below_al ?_ | refine below_drewN' ?_ _ | (refine below_set ?_ ?_; rotate_left; (simp; omega)))))).mono ?_; rintro e w4 ⟨rfl, hb4⟩
  have hz4 := hb4.size; (try simp at hz4); obtain ⟨hc4, hf4⟩ := bcell hb4; have hB4 := below_step (w := w) hb4 (by repeat (first | assumption | exact Below.refl _ _ | refine below_al ?_ | refine below_drewN' ?_ _ | (refine below_set ?_ ?_; rotate_left; (simp; omega))))
  have le_w_w4 : w.heap.size ≤ w4.heap.size := by omega
  try have lt_w_w4 : w.heap.size < w4.heap.size := by omega
  have le_w1_w4 : w1.heap.size ≤ w4.heap.size := by omega
  try have lt_w1_w4 : w1.heap.size < w4.heap.size := by omega
  have le_w2_w4 : w2.heap.size ≤ w4.heap.size := by omega
  try have lt_w2_w4 : w2.heap.size < w4.heap.size := by omega
  have le_w3_w4 : w3.heap.size ≤ w4.heap.size := by omega
  try have lt_w3_w4 : w3.heap.size < w4.heap.size := by omega
  go_wp2_with fail
  refine (of_c _ _ (hL.below (by repeat (first | assumption | exact Below.refl _ _ | refine below_al ?_ | refine below_drewN' ?_ _ | (refine below_set ?_ ?_; rotate_left; (simp; omega)))))).mono ?_; rintro e w5 ⟨rfl, hb5⟩
  have hz5 := hb5.size; (try simp at hz5); obtain ⟨hc5, hf5⟩ := bcell hb5; have hB5 := below_step (w := w) hb5 (by repeat (first | assumption | exact Below.refl _ _ | refine below_al ?_ | refine below_drewN' ?_ _ | (refine below_set ?_ ?_; rotate_left; (simp; omega))))
  have le_w_w5 : w.heap.size ≤ w5.heap.size := by omega
  try have lt_w_w5 : w.heap.size < w5.heap.size := by omega
  have le_w1_w5 : w1.heap.size ≤ w5.heap.size := by omega
  try have lt_w1_w5 : w1.heap.size < w5.heap.size := by omega
  have le_w2_w5 : w2.heap.size ≤ w5.heap.size := by omega
  try have lt_w2_w5 : w2.heap.size < w5.heap.size := by omega
  have le_w3_w5 : w3.heap.size ≤ w5.heap.size := by omega
  try have lt_w3_w5 : w3.heap.size < w5.heap.size := by omega
  have le_w4_w5 : w4.heap.size ≤ w5.heap.size := by omega
  try have lt_w4_w5 : w4.heap.size < w5.heap.size := by omega
  go_wp2_with fail
  refine (wd_c _ _).mono ?_; rintro e w' ⟨rfl, rfl⟩
  go_wp2_with fail
  refine (wd_c _ _).mono ?_; rintro e w' ⟨rfl, rfl⟩
  go_wp2_with fail
  refine (wd_c _ _).mono ?_; rintro e w' ⟨rfl, rfl⟩
  go_wp2_with fail
  refine (leap_c _ _).mono ?_; rintro e w' ⟨rfl, rfl⟩
  go_wp2_with fail
  refine (leap_c _ _).mono ?_; rintro e w' ⟨rfl, rfl⟩
  go_wp2_with fail
  refine (length_c _ _ _ (hL.below (by repeat (first | assumption | exact Below.refl _ _ | refine below_al ?_ | refine below_drewN' ?_ _ | (refine below_set ?_ ?_; rotate_left; (simp; omega)))))).mono ?_; rintro e w' ⟨rfl, rfl⟩
  go_wp2_with fail
  refine (length_c _ _ _ (hL.below (by repeat (first | assumption | exact Below.refl _ _ | refine below_al ?_ | refine below_drewN' ?_ _ | (refine below_set ?_ ?_; rotate_left; (simp; omega)))))).mono ?_; rintro e w' ⟨rfl, rfl⟩
  go_wp2_with fail
  refine (may_c _ _ _ _ (hL.below (by repeat (first | assumption | exact Below.refl _ _ | refine below_al ?_ | refine below_drewN' ?_ _ | (refine below_set ?_ ?_; rotate_left; (simp; omega)))))).mono ?_; rintro e w6 ⟨rfl, hb6⟩
  have hz6 := hb6.size; (try simp at hz6); obtain ⟨hc6, hf6⟩ := bcell hb6; have hB6 := below_step (w := w) hb6 (by repeat (first | assumption | exact Below.refl _ _ | refine below_al ?_ | refine below_drewN' ?_ _ | (refine below_set ?_ ?_; rotate_left; (simp; omega))))
  have le_w_w6 : w.heap.size ≤ w6.heap.size := by omega
  try have lt_w_w6 : w.heap.size < w6.heap.size := by omega
  have le_w1_w6 : w1.heap.size ≤ w6.heap.size := by omega
  try have lt_w1_w6 : w1.heap.size < w6.heap.size := by omega
  have le_w2_w6 : w2.heap.size ≤ w6.heap.size := by omega
  try have lt_w2_w6 : w2.heap.size < w6.heap.size := by omega
  have le_w3_w6 : w3.heap.size ≤ w6.heap.size := by omega
  try have lt_w3_w6 : w3.heap.size < w6.heap.size := by omega
  have le_w4_w6 : w4.heap.size ≤ w6.heap.size := by omega
  try have lt_w4_w6 : w4.heap.size < w6.heap.size := by omega
  have le_w5_w6 : w5.heap.size ≤ w6.heap.size := by omega
  try have lt_w5_w6 : w5.heap.size < w6.heap.size := by omega
  go_wp2_with fail
  refine (may_c _ _ _ _ (hL.below (by repeat (first | assumption | exact Below.refl _ _ | refine below_al ?_ | refine below_drewN' ?_ _ | (refine below_set ?_ ?_; rotate_left; (simp; omega)))))).mono ?_; rintro e w7 ⟨rfl, hb7⟩
  have hz7 := hb7.size; (try simp at hz7); obtain ⟨hc7, hf7⟩ := bcell hb7; have hB7 := below_step (w := w) hb7 (by repeat (first | assumption | exact Below.refl _ _ | refine below_al ?_ | refine below_drewN' ?_ _ | (refine below_set ?_ ?_; rotate_left; (simp; omega))))
  have le_w_w7 : w.heap.size ≤ w7.heap.size := by omega
  try have lt_w_w7 : w.heap.size < w7.heap.size := by omega
  have le_w1_w7 : w1.heap.size ≤ w7.heap.size := by omega
  try have lt_w1_w7 : w1.heap.size < w7.heap.size := by omega
  have le_w2_w7 : w2.heap.size ≤ w7.heap.size := by omega
  try have lt_w2_w7 : w2.heap.size < w7.heap.size := by omega
  have le_w3_w7 : w3.heap.size ≤ w7.heap.size := by omega
  try have lt_w3_w7 : w3.heap.size < w7.heap.size := by omega
  have le_w4_w7 : w4.heap.size ≤ w7.heap.size := by omega
  try have lt_w4_w7 : w4.heap.size < w7.heap.size := by omega
  have le_w5_w7 : w5.heap.size ≤ w7.heap.size := by omega
  try have lt_w5_w7 : w5.heap.size < w7.heap.size := by omega
  have le_w6_w7 : w6.heap.size ≤ w7.heap.size := by omega
  try have lt_w6_w7 : w6.heap.size < w7.heap.size := by omega
  go_wp2_with fail
  go_ret
  exact ⟨rfl, by repeat (first | assumption | exact Below.refl _ _ | refine below_al ?_ | refine below_drewN' ?_ _ | (refine below_set ?_ ?_; rotate_left; (simp; omega)))⟩
end Go.Proofs.YtfcapdifenbcnaaDoor
