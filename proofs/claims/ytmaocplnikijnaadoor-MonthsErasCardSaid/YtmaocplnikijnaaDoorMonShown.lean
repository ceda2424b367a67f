/- The head of the statements on months: the document's examples hold. Conditions: the table of months' lengths lies as the program's text lays it. -/
import Derived.Test.YtmaocplnikijnaaDoorMonD
import Derived.Test.YtmaocplnikijnaaDoorDay
namespace Go.Proofs.YtmaocplnikijnaaDoor
open Go.RowKit
set_option maxHeartbeats 2000000 in
theorem shown05_c (w : World) (hL : Laid w) : Calls Tryd.prog 18 #[] w fun e w' => e = .returned (.bool true) ∧ Below w.heap.size w w' := by
  have a1 : numV 2024 1 31 = 738916 := by decide
  have a2 : numV 2023 2 28 = 738579 := by decide
  have a3 : numV 2024 2 3 = 738919 := by decide
  have a4 : numV 1 1 5 = 5 := by decide
  have a5 : numV 2024 2 29 = 738945 := by decide
  have a6 : numV 2023 3 31 = 738610 := by decide
  have a7 : numV 2023 3 28 = 738607 := by decide
  have b1 : Mon.V 738916 1 false = 738945 := by decide
  have b2 : Mon.E 738916 1 = 0 := by decide
  have b3 : Mon.V 738579 1 true = 738610 := by decide
  have b4 : Mon.E 738579 1 = 0 := by decide
  have b5 : Mon.V 738579 1 false = 738607 := by decide
  have b6 : Mon.endV 738919 = 738945 := by decide
  have b7 : ofE 738919 = 0 := by decide
  have b8 : Mon.E 5 (-1) = 3 := by decide
  have b9 : ofE 0 = 3 := by decide
  have c1 : Mon.lastB 738945 = true := by decide
  have c2 : Mon.lastB 738944 = false := by decide
  have c3 : Mon.lastB 0 = false := by decide
  have hB : Below w.heap.size w w := Below.refl _ _
  go_enter Tryd.func18, Tryd.ntmps18
  go_wp2_with fail
  refine (day05_c _ _ _ _).mono ?_; rintro e w1 ⟨rfl, hb1⟩
  have hz1 := hb1.size; (try simp at hz1); obtain ⟨hc1, hf1⟩ := bcell hb1; have hB1 := below_step (w := w) hb1 (by repeat (first | assumption | exact Below.refl _ _ | (with_reducible refine Below.drew ?_) | (with_reducible refine below_drewN' ?_ _) | (with_reducible refine below_al ?_) | ((with_reducible refine below_set ?_ ?_); rotate_left; focus (first | (simp; done) | (simp; omega)))))
  have le_w_w1 : w.heap.size ≤ w1.heap.size := by omega
  try have lt_w_w1 : w.heap.size < w1.heap.size := by omega
  go_wp2_with fail
  refine (shift_c _ _ _ (hL.below (by repeat (first | assumption | exact Below.refl _ _ | (with_reducible refine Below.drew ?_) | (with_reducible refine below_drewN' ?_ _) | (with_reducible refine below_al ?_) | ((with_reducible refine below_set ?_ ?_); rotate_left; focus (first | (simp; done) | (simp; omega))))))).mono ?_; rintro e w2 ⟨rfl, hb2⟩
  have hz2 := hb2.size; (try simp at hz2); obtain ⟨hc2, hf2⟩ := bcell hb2; have hB2 := below_step (w := w) hb2 (by repeat (first | assumption | exact Below.refl _ _ | (with_reducible refine Below.drew ?_) | (with_reducible refine below_drewN' ?_ _) | (with_reducible refine below_al ?_) | ((with_reducible refine below_set ?_ ?_); rotate_left; focus (first | (simp; done) | (simp; omega)))))
  have le_w_w2 : w.heap.size ≤ w2.heap.size := by omega
  try have lt_w_w2 : w.heap.size < w2.heap.size := by omega
  have le_w1_w2 : w1.heap.size ≤ w2.heap.size := by omega
  try have lt_w1_w2 : w1.heap.size < w2.heap.size := by omega
  go_wp2_with fail
  refine (day05_c _ _ _ _).mono ?_; rintro e w3 ⟨rfl, hb3⟩
  have hz3 := hb3.size; (try simp at hz3); obtain ⟨hc3, hf3⟩ := bcell hb3; have hB3 := below_step (w := w) hb3 (by repeat (first | assumption | exact Below.refl _ _ | (with_reducible refine Below.drew ?_) | (with_reducible refine below_drewN' ?_ _) | (with_reducible refine below_al ?_) | ((with_reducible refine below_set ?_ ?_); rotate_left; focus (first | (simp; done) | (simp; omega)))))
  have le_w_w3 : w.heap.size ≤ w3.heap.size := by omega
  try have lt_w_w3 : w.heap.size < w3.heap.size := by omega
  have le_w1_w3 : w1.heap.size ≤ w3.heap.size := by omega
  try have lt_w1_w3 : w1.heap.size < w3.heap.size := by omega
  have le_w2_w3 : w2.heap.size ≤ w3.heap.size := by omega
  try have lt_w2_w3 : w2.heap.size < w3.heap.size := by omega
  go_wp2_with fail
  refine (move_c _ _ _ _ (hL.below (by repeat (first | assumption | exact Below.refl _ _ | (with_reducible refine Below.drew ?_) | (with_reducible refine below_drewN' ?_ _) | (with_reducible refine below_al ?_) | ((with_reducible refine below_set ?_ ?_); rotate_left; focus (first | (simp; done) | (simp; omega))))))).mono ?_; rintro e w4 ⟨rfl, hb4⟩
  have hz4 := hb4.size; (try simp at hz4); obtain ⟨hc4, hf4⟩ := bcell hb4; have hB4 := below_step (w := w) hb4 (by repeat (first | assumption | exact Below.refl _ _ | (with_reducible refine Below.drew ?_) | (with_reducible refine below_drewN' ?_ _) | (with_reducible refine below_al ?_) | ((with_reducible refine below_set ?_ ?_); rotate_left; focus (first | (simp; done) | (simp; omega)))))
  have le_w_w4 : w.heap.size ≤ w4.heap.size := by omega
  try have lt_w_w4 : w.heap.size < w4.heap.size := by omega
  have le_w1_w4 : w1.heap.size ≤ w4.heap.size := by omega
  try have lt_w1_w4 : w1.heap.size < w4.heap.size := by omega
  have le_w2_w4 : w2.heap.size ≤ w4.heap.size := by omega
  try have lt_w2_w4 : w2.heap.size < w4.heap.size := by omega
  have le_w3_w4 : w3.heap.size ≤ w4.heap.size := by omega
  try have lt_w3_w4 : w3.heap.size < w4.heap.size := by omega
  go_wp2_with fail
  refine (day05_c _ _ _ _).mono ?_; rintro e w5 ⟨rfl, hb5⟩
  have hz5 := hb5.size; (try simp at hz5); obtain ⟨hc5, hf5⟩ := bcell hb5; have hB5 := below_step (w := w) hb5 (by repeat (first | assumption | exact Below.refl _ _ | (with_reducible refine Below.drew ?_) | (with_reducible refine below_drewN' ?_ _) | (with_reducible refine below_al ?_) | ((with_reducible refine below_set ?_ ?_); rotate_left; focus (first | (simp; done) | (simp; omega)))))
  have le_w_w5 : w.heap.size ≤ w5.heap.size := by omega
  try have lt_w_w5 : w.heap.size < w5.heap.size := by omega
  have le_w1_w5 : w1.heap.size ≤ w5.heap.size := by omega
  try have lt_w1_w5 : w1.heap.size < w5.heap.size := by omega
  have le_w2_w5 : w2.heap.size ≤ w5.heap.size := by omega
  try have lt_w2_w5 : w2.heap.size < w5.heap.size := by omega
  have le_w3_w5 : w3.heap.size ≤ w5.heap.size := by omega
  try have lt_w3_w5 : w3.heap.size < w5.heap.size := by omega
  have le_w4_w5 : w4.heap.size ≤ w5.heap.size := by omega
  try have lt_w4_w5 : w4.heap.size < w5.heap.size := by omega
  go_wp2_with fail
  refine (move_c _ _ _ _ (hL.below (by repeat (first | assumption | exact Below.refl _ _ | (with_reducible refine Below.drew ?_) | (with_reducible refine below_drewN' ?_ _) | (with_reducible refine below_al ?_) | ((with_reducible refine below_set ?_ ?_); rotate_left; focus (first | (simp; done) | (simp; omega))))))).mono ?_; rintro e w6 ⟨rfl, hb6⟩
  have hz6 := hb6.size; (try simp at hz6); obtain ⟨hc6, hf6⟩ := bcell hb6; have hB6 := below_step (w := w) hb6 (by repeat (first | assumption | exact Below.refl _ _ | (with_reducible refine Below.drew ?_) | (with_reducible refine below_drewN' ?_ _) | (with_reducible refine below_al ?_) | ((with_reducible refine below_set ?_ ?_); rotate_left; focus (first | (simp; done) | (simp; omega)))))
  have le_w_w6 : w.heap.size ≤ w6.heap.size := by omega
  try have lt_w_w6 : w.heap.size < w6.heap.size := by omega
  have le_w1_w6 : w1.heap.size ≤ w6.heap.size := by omega
  try have lt_w1_w6 : w1.heap.size < w6.heap.size := by omega
  have le_w2_w6 : w2.heap.size ≤ w6.heap.size := by omega
  try have lt_w2_w6 : w2.heap.size < w6.heap.size := by omega
  have le_w3_w6 : w3.heap.size ≤ w6.heap.size := by omega
  try have lt_w3_w6 : w3.heap.size < w6.heap.size := by omega
  have le_w4_w6 : w4.heap.size ≤ w6.heap.size := by omega
  try have lt_w4_w6 : w4.heap.size < w6.heap.size := by omega
  have le_w5_w6 : w5.heap.size ≤ w6.heap.size := by omega
  try have lt_w5_w6 : w5.heap.size < w6.heap.size := by omega
  go_wp2_with fail
  refine (day05_c _ _ _ _).mono ?_; rintro e w7 ⟨rfl, hb7⟩
  have hz7 := hb7.size; (try simp at hz7); obtain ⟨hc7, hf7⟩ := bcell hb7; have hB7 := below_step (w := w) hb7 (by repeat (first | assumption | exact Below.refl _ _ | (with_reducible refine Below.drew ?_) | (with_reducible refine below_drewN' ?_ _) | (with_reducible refine below_al ?_) | ((with_reducible refine below_set ?_ ?_); rotate_left; focus (first | (simp; done) | (simp; omega)))))
  have le_w_w7 : w.heap.size ≤ w7.heap.size := by omega
  try have lt_w_w7 : w.heap.size < w7.heap.size := by omega
  have le_w1_w7 : w1.heap.size ≤ w7.heap.size := by omega
  try have lt_w1_w7 : w1.heap.size < w7.heap.size := by omega
  have le_w2_w7 : w2.heap.size ≤ w7.heap.size := by omega
  try have lt_w2_w7 : w2.heap.size < w7.heap.size := by omega
  have le_w3_w7 : w3.heap.size ≤ w7.heap.size := by omega
  try have lt_w3_w7 : w3.heap.size < w7.heap.size := by omega
  have le_w4_w7 : w4.heap.size ≤ w7.heap.size := by omega
  try have lt_w4_w7 : w4.heap.size < w7.heap.size := by omega
  have le_w5_w7 : w5.heap.size ≤ w7.heap.size := by omega
  try have lt_w5_w7 : w5.heap.size < w7.heap.size := by omega
  have le_w6_w7 : w6.heap.size ≤ w7.heap.size := by omega
  try have lt_w6_w7 : w6.heap.size < w7.heap.size := by omega
  go_wp2_with fail
  refine (mEnd_c _ _ (hL.below (by repeat (first | assumption | exact Below.refl _ _ | (with_reducible refine Below.drew ?_) | (with_reducible refine below_drewN' ?_ _) | (with_reducible refine below_al ?_) | ((with_reducible refine below_set ?_ ?_); rotate_left; focus (first | (simp; done) | (simp; omega))))))).mono ?_; rintro e w8 ⟨rfl, hb8⟩
  have hz8 := hb8.size; (try simp at hz8); obtain ⟨hc8, hf8⟩ := bcell hb8; have hB8 := below_step (w := w) hb8 (by repeat (first | assumption | exact Below.refl _ _ | (with_reducible refine Below.drew ?_) | (with_reducible refine below_drewN' ?_ _) | (with_reducible refine below_al ?_) | ((with_reducible refine below_set ?_ ?_); rotate_left; focus (first | (simp; done) | (simp; omega)))))
  have le_w_w8 : w.heap.size ≤ w8.heap.size := by omega
  try have lt_w_w8 : w.heap.size < w8.heap.size := by omega
  have le_w1_w8 : w1.heap.size ≤ w8.heap.size := by omega
  try have lt_w1_w8 : w1.heap.size < w8.heap.size := by omega
  have le_w2_w8 : w2.heap.size ≤ w8.heap.size := by omega
  try have lt_w2_w8 : w2.heap.size < w8.heap.size := by omega
  have le_w3_w8 : w3.heap.size ≤ w8.heap.size := by omega
  try have lt_w3_w8 : w3.heap.size < w8.heap.size := by omega
  have le_w4_w8 : w4.heap.size ≤ w8.heap.size := by omega
  try have lt_w4_w8 : w4.heap.size < w8.heap.size := by omega
  have le_w5_w8 : w5.heap.size ≤ w8.heap.size := by omega
  try have lt_w5_w8 : w5.heap.size < w8.heap.size := by omega
  have le_w6_w8 : w6.heap.size ≤ w8.heap.size := by omega
  try have lt_w6_w8 : w6.heap.size < w8.heap.size := by omega
  have le_w7_w8 : w7.heap.size ≤ w8.heap.size := by omega
  try have lt_w7_w8 : w7.heap.size < w8.heap.size := by omega
  go_wp2_with fail
  refine (day05_c _ _ _ _).mono ?_; rintro e w9 ⟨rfl, hb9⟩
  have hz9 := hb9.size; (try simp at hz9); obtain ⟨hc9, hf9⟩ := bcell hb9; have hB9 := below_step (w := w) hb9 (by repeat (first | assumption | exact Below.refl _ _ | (with_reducible refine Below.drew ?_) | (with_reducible refine below_drewN' ?_ _) | (with_reducible refine below_al ?_) | ((with_reducible refine below_set ?_ ?_); rotate_left; focus (first | (simp; done) | (simp; omega)))))
  have le_w_w9 : w.heap.size ≤ w9.heap.size := by omega
  try have lt_w_w9 : w.heap.size < w9.heap.size := by omega
  have le_w1_w9 : w1.heap.size ≤ w9.heap.size := by omega
  try have lt_w1_w9 : w1.heap.size < w9.heap.size := by omega
  have le_w2_w9 : w2.heap.size ≤ w9.heap.size := by omega
  try have lt_w2_w9 : w2.heap.size < w9.heap.size := by omega
  have le_w3_w9 : w3.heap.size ≤ w9.heap.size := by omega
  try have lt_w3_w9 : w3.heap.size < w9.heap.size := by omega
  have le_w4_w9 : w4.heap.size ≤ w9.heap.size := by omega
  try have lt_w4_w9 : w4.heap.size < w9.heap.size := by omega
  have le_w5_w9 : w5.heap.size ≤ w9.heap.size := by omega
  try have lt_w5_w9 : w5.heap.size < w9.heap.size := by omega
  have le_w6_w9 : w6.heap.size ≤ w9.heap.size := by omega
  try have lt_w6_w9 : w6.heap.size < w9.heap.size := by omega
  have le_w7_w9 : w7.heap.size ≤ w9.heap.size := by omega
  try have lt_w7_w9 : w7.heap.size < w9.heap.size := by omega
  have le_w8_w9 : w8.heap.size ≤ w9.heap.size := by omega
  try have lt_w8_w9 : w8.heap.size < w9.heap.size := by omega
  go_wp2_with fail
  refine (shift_c _ _ _ (hL.below (by repeat (first | assumption | exact Below.refl _ _ | (with_reducible refine Below.drew ?_) | (with_reducible refine below_drewN' ?_ _) | (with_reducible refine below_al ?_) | ((with_reducible refine below_set ?_ ?_); rotate_left; focus (first | (simp; done) | (simp; omega))))))).mono ?_; rintro e w10 ⟨rfl, hb10⟩
  have hz10 := hb10.size; (try simp at hz10); obtain ⟨hc10, hf10⟩ := bcell hb10; have hB10 := below_step (w := w) hb10 (by repeat (first | assumption | exact Below.refl _ _ | (with_reducible refine Below.drew ?_) | (with_reducible refine below_drewN' ?_ _) | (with_reducible refine below_al ?_) | ((with_reducible refine below_set ?_ ?_); rotate_left; focus (first | (simp; done) | (simp; omega)))))
  have le_w_w10 : w.heap.size ≤ w10.heap.size := by omega
  try have lt_w_w10 : w.heap.size < w10.heap.size := by omega
  have le_w1_w10 : w1.heap.size ≤ w10.heap.size := by omega
  try have lt_w1_w10 : w1.heap.size < w10.heap.size := by omega
  have le_w2_w10 : w2.heap.size ≤ w10.heap.size := by omega
  try have lt_w2_w10 : w2.heap.size < w10.heap.size := by omega
  have le_w3_w10 : w3.heap.size ≤ w10.heap.size := by omega
  try have lt_w3_w10 : w3.heap.size < w10.heap.size := by omega
  have le_w4_w10 : w4.heap.size ≤ w10.heap.size := by omega
  try have lt_w4_w10 : w4.heap.size < w10.heap.size := by omega
  have le_w5_w10 : w5.heap.size ≤ w10.heap.size := by omega
  try have lt_w5_w10 : w5.heap.size < w10.heap.size := by omega
  have le_w6_w10 : w6.heap.size ≤ w10.heap.size := by omega
  try have lt_w6_w10 : w6.heap.size < w10.heap.size := by omega
  have le_w7_w10 : w7.heap.size ≤ w10.heap.size := by omega
  try have lt_w7_w10 : w7.heap.size < w10.heap.size := by omega
  have le_w8_w10 : w8.heap.size ≤ w10.heap.size := by omega
  try have lt_w8_w10 : w8.heap.size < w10.heap.size := by omega
  have le_w9_w10 : w9.heap.size ≤ w10.heap.size := by omega
  try have lt_w9_w10 : w9.heap.size < w10.heap.size := by omega
  go_wp2_with fail
  refine (mEnd_c _ _ (hL.below (by repeat (first | assumption | exact Below.refl _ _ | (with_reducible refine Below.drew ?_) | (with_reducible refine below_drewN' ?_ _) | (with_reducible refine below_al ?_) | ((with_reducible refine below_set ?_ ?_); rotate_left; focus (first | (simp; done) | (simp; omega))))))).mono ?_; rintro e w11 ⟨rfl, hb11⟩
  have hz11 := hb11.size; (try simp at hz11); obtain ⟨hc11, hf11⟩ := bcell hb11; have hB11 := below_step (w := w) hb11 (by repeat (first | assumption | exact Below.refl _ _ | (with_reducible refine Below.drew ?_) | (with_reducible refine below_drewN' ?_ _) | (with_reducible refine below_al ?_) | ((with_reducible refine below_set ?_ ?_); rotate_left; focus (first | (simp; done) | (simp; omega)))))
  have le_w_w11 : w.heap.size ≤ w11.heap.size := by omega
  try have lt_w_w11 : w.heap.size < w11.heap.size := by omega
  have le_w1_w11 : w1.heap.size ≤ w11.heap.size := by omega
  try have lt_w1_w11 : w1.heap.size < w11.heap.size := by omega
  have le_w2_w11 : w2.heap.size ≤ w11.heap.size := by omega
  try have lt_w2_w11 : w2.heap.size < w11.heap.size := by omega
  have le_w3_w11 : w3.heap.size ≤ w11.heap.size := by omega
  try have lt_w3_w11 : w3.heap.size < w11.heap.size := by omega
  have le_w4_w11 : w4.heap.size ≤ w11.heap.size := by omega
  try have lt_w4_w11 : w4.heap.size < w11.heap.size := by omega
  have le_w5_w11 : w5.heap.size ≤ w11.heap.size := by omega
  try have lt_w5_w11 : w5.heap.size < w11.heap.size := by omega
  have le_w6_w11 : w6.heap.size ≤ w11.heap.size := by omega
  try have lt_w6_w11 : w6.heap.size < w11.heap.size := by omega
  have le_w7_w11 : w7.heap.size ≤ w11.heap.size := by omega
  try have lt_w7_w11 : w7.heap.size < w11.heap.size := by omega
  have le_w8_w11 : w8.heap.size ≤ w11.heap.size := by omega
  try have lt_w8_w11 : w8.heap.size < w11.heap.size := by omega
  have le_w9_w11 : w9.heap.size ≤ w11.heap.size := by omega
  try have lt_w9_w11 : w9.heap.size < w11.heap.size := by omega
  have le_w10_w11 : w10.heap.size ≤ w11.heap.size := by omega
  try have lt_w10_w11 : w10.heap.size < w11.heap.size := by omega
  go_wp2_with fail
  refine (day05_c _ _ _ _).mono ?_; rintro e w12 ⟨rfl, hb12⟩
  have hz12 := hb12.size; (try simp at hz12); obtain ⟨hc12, hf12⟩ := bcell hb12; have hB12 := below_step (w := w) hb12 (by repeat (first | assumption | exact Below.refl _ _ | (with_reducible refine Below.drew ?_) | (with_reducible refine below_drewN' ?_ _) | (with_reducible refine below_al ?_) | ((with_reducible refine below_set ?_ ?_); rotate_left; focus (first | (simp; done) | (simp; omega)))))
  have le_w_w12 : w.heap.size ≤ w12.heap.size := by omega
  try have lt_w_w12 : w.heap.size < w12.heap.size := by omega
  have le_w1_w12 : w1.heap.size ≤ w12.heap.size := by omega
  try have lt_w1_w12 : w1.heap.size < w12.heap.size := by omega
  have le_w2_w12 : w2.heap.size ≤ w12.heap.size := by omega
  try have lt_w2_w12 : w2.heap.size < w12.heap.size := by omega
  have le_w3_w12 : w3.heap.size ≤ w12.heap.size := by omega
  try have lt_w3_w12 : w3.heap.size < w12.heap.size := by omega
  have le_w4_w12 : w4.heap.size ≤ w12.heap.size := by omega
  try have lt_w4_w12 : w4.heap.size < w12.heap.size := by omega
  have le_w5_w12 : w5.heap.size ≤ w12.heap.size := by omega
  try have lt_w5_w12 : w5.heap.size < w12.heap.size := by omega
  have le_w6_w12 : w6.heap.size ≤ w12.heap.size := by omega
  try have lt_w6_w12 : w6.heap.size < w12.heap.size := by omega
  have le_w7_w12 : w7.heap.size ≤ w12.heap.size := by omega
  try have lt_w7_w12 : w7.heap.size < w12.heap.size := by omega
  have le_w8_w12 : w8.heap.size ≤ w12.heap.size := by omega
  try have lt_w8_w12 : w8.heap.size < w12.heap.size := by omega
  have le_w9_w12 : w9.heap.size ≤ w12.heap.size := by omega
  try have lt_w9_w12 : w9.heap.size < w12.heap.size := by omega
  have le_w10_w12 : w10.heap.size ≤ w12.heap.size := by omega
  try have lt_w10_w12 : w10.heap.size < w12.heap.size := by omega
  have le_w11_w12 : w11.heap.size ≤ w12.heap.size := by omega
  try have lt_w11_w12 : w11.heap.size < w12.heap.size := by omega
  go_wp2_with fail
  refine (day05_c _ _ _ _).mono ?_; rintro e w13 ⟨rfl, hb13⟩
  have hz13 := hb13.size; (try simp at hz13); obtain ⟨hc13, hf13⟩ := bcell hb13; have hB13 := below_step (w := w) hb13 (by repeat (first | assumption | exact Below.refl _ _ | (with_reducible refine Below.drew ?_) | (with_reducible refine below_drewN' ?_ _) | (with_reducible refine below_al ?_) | ((with_reducible refine below_set ?_ ?_); rotate_left; focus (first | (simp; done) | (simp; omega)))))
  have le_w_w13 : w.heap.size ≤ w13.heap.size := by omega
  try have lt_w_w13 : w.heap.size < w13.heap.size := by omega
  have le_w1_w13 : w1.heap.size ≤ w13.heap.size := by omega
  try have lt_w1_w13 : w1.heap.size < w13.heap.size := by omega
  have le_w2_w13 : w2.heap.size ≤ w13.heap.size := by omega
  try have lt_w2_w13 : w2.heap.size < w13.heap.size := by omega
  have le_w3_w13 : w3.heap.size ≤ w13.heap.size := by omega
  try have lt_w3_w13 : w3.heap.size < w13.heap.size := by omega
  have le_w4_w13 : w4.heap.size ≤ w13.heap.size := by omega
  try have lt_w4_w13 : w4.heap.size < w13.heap.size := by omega
  have le_w5_w13 : w5.heap.size ≤ w13.heap.size := by omega
  try have lt_w5_w13 : w5.heap.size < w13.heap.size := by omega
  have le_w6_w13 : w6.heap.size ≤ w13.heap.size := by omega
  try have lt_w6_w13 : w6.heap.size < w13.heap.size := by omega
  have le_w7_w13 : w7.heap.size ≤ w13.heap.size := by omega
  try have lt_w7_w13 : w7.heap.size < w13.heap.size := by omega
  have le_w8_w13 : w8.heap.size ≤ w13.heap.size := by omega
  try have lt_w8_w13 : w8.heap.size < w13.heap.size := by omega
  have le_w9_w13 : w9.heap.size ≤ w13.heap.size := by omega
  try have lt_w9_w13 : w9.heap.size < w13.heap.size := by omega
  have le_w10_w13 : w10.heap.size ≤ w13.heap.size := by omega
  try have lt_w10_w13 : w10.heap.size < w13.heap.size := by omega
  have le_w11_w13 : w11.heap.size ≤ w13.heap.size := by omega
  try have lt_w11_w13 : w11.heap.size < w13.heap.size := by omega
  have le_w12_w13 : w12.heap.size ≤ w13.heap.size := by omega
  try have lt_w12_w13 : w12.heap.size < w13.heap.size := by omega
  go_wp2_with fail
  refine (day05_c _ _ _ _).mono ?_; rintro e w14 ⟨rfl, hb14⟩
  have hz14 := hb14.size; (try simp at hz14); obtain ⟨hc14, hf14⟩ := bcell hb14; have hB14 := below_step (w := w) hb14 (by repeat (first | assumption | exact Below.refl _ _ | (with_reducible refine Below.drew ?_) | (with_reducible refine below_drewN' ?_ _) | (with_reducible refine below_al ?_) | ((with_reducible refine below_set ?_ ?_); rotate_left; focus (first | (simp; done) | (simp; omega)))))
  have le_w_w14 : w.heap.size ≤ w14.heap.size := by omega
  try have lt_w_w14 : w.heap.size < w14.heap.size := by omega
  have le_w1_w14 : w1.heap.size ≤ w14.heap.size := by omega
  try have lt_w1_w14 : w1.heap.size < w14.heap.size := by omega
  have le_w2_w14 : w2.heap.size ≤ w14.heap.size := by omega
  try have lt_w2_w14 : w2.heap.size < w14.heap.size := by omega
  have le_w3_w14 : w3.heap.size ≤ w14.heap.size := by omega
  try have lt_w3_w14 : w3.heap.size < w14.heap.size := by omega
  have le_w4_w14 : w4.heap.size ≤ w14.heap.size := by omega
  try have lt_w4_w14 : w4.heap.size < w14.heap.size := by omega
  have le_w5_w14 : w5.heap.size ≤ w14.heap.size := by omega
  try have lt_w5_w14 : w5.heap.size < w14.heap.size := by omega
  have le_w6_w14 : w6.heap.size ≤ w14.heap.size := by omega
  try have lt_w6_w14 : w6.heap.size < w14.heap.size := by omega
  have le_w7_w14 : w7.heap.size ≤ w14.heap.size := by omega
  try have lt_w7_w14 : w7.heap.size < w14.heap.size := by omega
  have le_w8_w14 : w8.heap.size ≤ w14.heap.size := by omega
  try have lt_w8_w14 : w8.heap.size < w14.heap.size := by omega
  have le_w9_w14 : w9.heap.size ≤ w14.heap.size := by omega
  try have lt_w9_w14 : w9.heap.size < w14.heap.size := by omega
  have le_w10_w14 : w10.heap.size ≤ w14.heap.size := by omega
  try have lt_w10_w14 : w10.heap.size < w14.heap.size := by omega
  have le_w11_w14 : w11.heap.size ≤ w14.heap.size := by omega
  try have lt_w11_w14 : w11.heap.size < w14.heap.size := by omega
  have le_w12_w14 : w12.heap.size ≤ w14.heap.size := by omega
  try have lt_w12_w14 : w12.heap.size < w14.heap.size := by omega
  have le_w13_w14 : w13.heap.size ≤ w14.heap.size := by omega
  try have lt_w13_w14 : w13.heap.size < w14.heap.size := by omega
  go_wp2_with fail
  refine (day05_c _ _ _ _).mono ?_; rintro e w15 ⟨rfl, hb15⟩
  have hz15 := hb15.size; (try simp at hz15); obtain ⟨hc15, hf15⟩ := bcell hb15; have hB15 := below_step (w := w) hb15 (by repeat (first | assumption | exact Below.refl _ _ | (with_reducible refine Below.drew ?_) | (with_reducible refine below_drewN' ?_ _) | (with_reducible refine below_al ?_) | ((with_reducible refine below_set ?_ ?_); rotate_left; focus (first | (simp; done) | (simp; omega)))))
  have le_w_w15 : w.heap.size ≤ w15.heap.size := by omega
  try have lt_w_w15 : w.heap.size < w15.heap.size := by omega
  have le_w1_w15 : w1.heap.size ≤ w15.heap.size := by omega
  try have lt_w1_w15 : w1.heap.size < w15.heap.size := by omega
  have le_w2_w15 : w2.heap.size ≤ w15.heap.size := by omega
  try have lt_w2_w15 : w2.heap.size < w15.heap.size := by omega
  have le_w3_w15 : w3.heap.size ≤ w15.heap.size := by omega
  try have lt_w3_w15 : w3.heap.size < w15.heap.size := by omega
  have le_w4_w15 : w4.heap.size ≤ w15.heap.size := by omega
  try have lt_w4_w15 : w4.heap.size < w15.heap.size := by omega
  have le_w5_w15 : w5.heap.size ≤ w15.heap.size := by omega
  try have lt_w5_w15 : w5.heap.size < w15.heap.size := by omega
  have le_w6_w15 : w6.heap.size ≤ w15.heap.size := by omega
  try have lt_w6_w15 : w6.heap.size < w15.heap.size := by omega
  have le_w7_w15 : w7.heap.size ≤ w15.heap.size := by omega
  try have lt_w7_w15 : w7.heap.size < w15.heap.size := by omega
  have le_w8_w15 : w8.heap.size ≤ w15.heap.size := by omega
  try have lt_w8_w15 : w8.heap.size < w15.heap.size := by omega
  have le_w9_w15 : w9.heap.size ≤ w15.heap.size := by omega
  try have lt_w9_w15 : w9.heap.size < w15.heap.size := by omega
  have le_w10_w15 : w10.heap.size ≤ w15.heap.size := by omega
  try have lt_w10_w15 : w10.heap.size < w15.heap.size := by omega
  have le_w11_w15 : w11.heap.size ≤ w15.heap.size := by omega
  try have lt_w11_w15 : w11.heap.size < w15.heap.size := by omega
  have le_w12_w15 : w12.heap.size ≤ w15.heap.size := by omega
  try have lt_w12_w15 : w12.heap.size < w15.heap.size := by omega
  have le_w13_w15 : w13.heap.size ≤ w15.heap.size := by omega
  try have lt_w13_w15 : w13.heap.size < w15.heap.size := by omega
  have le_w14_w15 : w14.heap.size ≤ w15.heap.size := by omega
  try have lt_w14_w15 : w14.heap.size < w15.heap.size := by omega
  go_wp2_with fail
  refine (last_c _ _ (hL.below (by repeat (first | assumption | exact Below.refl _ _ | (with_reducible refine Below.drew ?_) | (with_reducible refine below_drewN' ?_ _) | (with_reducible refine below_al ?_) | ((with_reducible refine below_set ?_ ?_); rotate_left; focus (first | (simp; done) | (simp; omega))))))).mono ?_; rintro e w16 ⟨rfl, hb16⟩
  have hz16 := hb16.size; (try simp at hz16); obtain ⟨hc16, hf16⟩ := bcell hb16; have hB16 := below_step (w := w) hb16 (by repeat (first | assumption | exact Below.refl _ _ | (with_reducible refine Below.drew ?_) | (with_reducible refine below_drewN' ?_ _) | (with_reducible refine below_al ?_) | ((with_reducible refine below_set ?_ ?_); rotate_left; focus (first | (simp; done) | (simp; omega)))))
  have le_w_w16 : w.heap.size ≤ w16.heap.size := by omega
  try have lt_w_w16 : w.heap.size < w16.heap.size := by omega
  have le_w1_w16 : w1.heap.size ≤ w16.heap.size := by omega
  try have lt_w1_w16 : w1.heap.size < w16.heap.size := by omega
  have le_w2_w16 : w2.heap.size ≤ w16.heap.size := by omega
  try have lt_w2_w16 : w2.heap.size < w16.heap.size := by omega
  have le_w3_w16 : w3.heap.size ≤ w16.heap.size := by omega
  try have lt_w3_w16 : w3.heap.size < w16.heap.size := by omega
  have le_w4_w16 : w4.heap.size ≤ w16.heap.size := by omega
  try have lt_w4_w16 : w4.heap.size < w16.heap.size := by omega
  have le_w5_w16 : w5.heap.size ≤ w16.heap.size := by omega
  try have lt_w5_w16 : w5.heap.size < w16.heap.size := by omega
  have le_w6_w16 : w6.heap.size ≤ w16.heap.size := by omega
  try have lt_w6_w16 : w6.heap.size < w16.heap.size := by omega
  have le_w7_w16 : w7.heap.size ≤ w16.heap.size := by omega
  try have lt_w7_w16 : w7.heap.size < w16.heap.size := by omega
  have le_w8_w16 : w8.heap.size ≤ w16.heap.size := by omega
  try have lt_w8_w16 : w8.heap.size < w16.heap.size := by omega
  have le_w9_w16 : w9.heap.size ≤ w16.heap.size := by omega
  try have lt_w9_w16 : w9.heap.size < w16.heap.size := by omega
  have le_w10_w16 : w10.heap.size ≤ w16.heap.size := by omega
  try have lt_w10_w16 : w10.heap.size < w16.heap.size := by omega
  have le_w11_w16 : w11.heap.size ≤ w16.heap.size := by omega
  try have lt_w11_w16 : w11.heap.size < w16.heap.size := by omega
  have le_w12_w16 : w12.heap.size ≤ w16.heap.size := by omega
  try have lt_w12_w16 : w12.heap.size < w16.heap.size := by omega
  have le_w13_w16 : w13.heap.size ≤ w16.heap.size := by omega
  try have lt_w13_w16 : w13.heap.size < w16.heap.size := by omega
  have le_w14_w16 : w14.heap.size ≤ w16.heap.size := by omega
  try have lt_w14_w16 : w14.heap.size < w16.heap.size := by omega
  have le_w15_w16 : w15.heap.size ≤ w16.heap.size := by omega
  try have lt_w15_w16 : w15.heap.size < w16.heap.size := by omega
  go_wp2_with fail
  refine (last_c _ _ (hL.below (by repeat (first | assumption | exact Below.refl _ _ | (with_reducible refine Below.drew ?_) | (with_reducible refine below_drewN' ?_ _) | (with_reducible refine below_al ?_) | ((with_reducible refine below_set ?_ ?_); rotate_left; focus (first | (simp; done) | (simp; omega))))))).mono ?_; rintro e w17 ⟨rfl, hb17⟩
  have hz17 := hb17.size; (try simp at hz17); obtain ⟨hc17, hf17⟩ := bcell hb17; have hB17 := below_step (w := w) hb17 (by repeat (first | assumption | exact Below.refl _ _ | (with_reducible refine Below.drew ?_) | (with_reducible refine below_drewN' ?_ _) | (with_reducible refine below_al ?_) | ((with_reducible refine below_set ?_ ?_); rotate_left; focus (first | (simp; done) | (simp; omega)))))
  have le_w_w17 : w.heap.size ≤ w17.heap.size := by omega
  try have lt_w_w17 : w.heap.size < w17.heap.size := by omega
  have le_w1_w17 : w1.heap.size ≤ w17.heap.size := by omega
  try have lt_w1_w17 : w1.heap.size < w17.heap.size := by omega
  have le_w2_w17 : w2.heap.size ≤ w17.heap.size := by omega
  try have lt_w2_w17 : w2.heap.size < w17.heap.size := by omega
  have le_w3_w17 : w3.heap.size ≤ w17.heap.size := by omega
  try have lt_w3_w17 : w3.heap.size < w17.heap.size := by omega
  have le_w4_w17 : w4.heap.size ≤ w17.heap.size := by omega
  try have lt_w4_w17 : w4.heap.size < w17.heap.size := by omega
  have le_w5_w17 : w5.heap.size ≤ w17.heap.size := by omega
  try have lt_w5_w17 : w5.heap.size < w17.heap.size := by omega
  have le_w6_w17 : w6.heap.size ≤ w17.heap.size := by omega
  try have lt_w6_w17 : w6.heap.size < w17.heap.size := by omega
  have le_w7_w17 : w7.heap.size ≤ w17.heap.size := by omega
  try have lt_w7_w17 : w7.heap.size < w17.heap.size := by omega
  have le_w8_w17 : w8.heap.size ≤ w17.heap.size := by omega
  try have lt_w8_w17 : w8.heap.size < w17.heap.size := by omega
  have le_w9_w17 : w9.heap.size ≤ w17.heap.size := by omega
  try have lt_w9_w17 : w9.heap.size < w17.heap.size := by omega
  have le_w10_w17 : w10.heap.size ≤ w17.heap.size := by omega
  try have lt_w10_w17 : w10.heap.size < w17.heap.size := by omega
  have le_w11_w17 : w11.heap.size ≤ w17.heap.size := by omega
  try have lt_w11_w17 : w11.heap.size < w17.heap.size := by omega
  have le_w12_w17 : w12.heap.size ≤ w17.heap.size := by omega
  try have lt_w12_w17 : w12.heap.size < w17.heap.size := by omega
  have le_w13_w17 : w13.heap.size ≤ w17.heap.size := by omega
  try have lt_w13_w17 : w13.heap.size < w17.heap.size := by omega
  have le_w14_w17 : w14.heap.size ≤ w17.heap.size := by omega
  try have lt_w14_w17 : w14.heap.size < w17.heap.size := by omega
  have le_w15_w17 : w15.heap.size ≤ w17.heap.size := by omega
  try have lt_w15_w17 : w15.heap.size < w17.heap.size := by omega
  have le_w16_w17 : w16.heap.size ≤ w17.heap.size := by omega
  try have lt_w16_w17 : w16.heap.size < w17.heap.size := by omega
  go_wp2_with fail
  refine (last_c _ _ (hL.below (by repeat (first | assumption | exact Below.refl _ _ | (with_reducible refine Below.drew ?_) | (with_reducible refine below_drewN' ?_ _) | (with_reducible refine below_al ?_) | ((with_reducible refine below_set ?_ ?_); rotate_left; focus (first | (simp; done) | (simp; omega))))))).mono ?_; rintro e w18 ⟨rfl, hb18⟩
  have hz18 := hb18.size; (try simp at hz18); obtain ⟨hc18, hf18⟩ := bcell hb18; have hB18 := below_step (w := w) hb18 (by repeat (first | assumption | exact Below.refl _ _ | (with_reducible refine Below.drew ?_) | (with_reducible refine below_drewN' ?_ _) | (with_reducible refine below_al ?_) | ((with_reducible refine below_set ?_ ?_); rotate_left; focus (first | (simp; done) | (simp; omega)))))
  have le_w_w18 : w.heap.size ≤ w18.heap.size := by omega
  try have lt_w_w18 : w.heap.size < w18.heap.size := by omega
  have le_w1_w18 : w1.heap.size ≤ w18.heap.size := by omega
  try have lt_w1_w18 : w1.heap.size < w18.heap.size := by omega
  have le_w2_w18 : w2.heap.size ≤ w18.heap.size := by omega
  try have lt_w2_w18 : w2.heap.size < w18.heap.size := by omega
  have le_w3_w18 : w3.heap.size ≤ w18.heap.size := by omega
  try have lt_w3_w18 : w3.heap.size < w18.heap.size := by omega
  have le_w4_w18 : w4.heap.size ≤ w18.heap.size := by omega
  try have lt_w4_w18 : w4.heap.size < w18.heap.size := by omega
  have le_w5_w18 : w5.heap.size ≤ w18.heap.size := by omega
  try have lt_w5_w18 : w5.heap.size < w18.heap.size := by omega
  have le_w6_w18 : w6.heap.size ≤ w18.heap.size := by omega
  try have lt_w6_w18 : w6.heap.size < w18.heap.size := by omega
  have le_w7_w18 : w7.heap.size ≤ w18.heap.size := by omega
  try have lt_w7_w18 : w7.heap.size < w18.heap.size := by omega
  have le_w8_w18 : w8.heap.size ≤ w18.heap.size := by omega
  try have lt_w8_w18 : w8.heap.size < w18.heap.size := by omega
  have le_w9_w18 : w9.heap.size ≤ w18.heap.size := by omega
  try have lt_w9_w18 : w9.heap.size < w18.heap.size := by omega
  have le_w10_w18 : w10.heap.size ≤ w18.heap.size := by omega
  try have lt_w10_w18 : w10.heap.size < w18.heap.size := by omega
  have le_w11_w18 : w11.heap.size ≤ w18.heap.size := by omega
  try have lt_w11_w18 : w11.heap.size < w18.heap.size := by omega
  have le_w12_w18 : w12.heap.size ≤ w18.heap.size := by omega
  try have lt_w12_w18 : w12.heap.size < w18.heap.size := by omega
  have le_w13_w18 : w13.heap.size ≤ w18.heap.size := by omega
  try have lt_w13_w18 : w13.heap.size < w18.heap.size := by omega
  have le_w14_w18 : w14.heap.size ≤ w18.heap.size := by omega
  try have lt_w14_w18 : w14.heap.size < w18.heap.size := by omega
  have le_w15_w18 : w15.heap.size ≤ w18.heap.size := by omega
  try have lt_w15_w18 : w15.heap.size < w18.heap.size := by omega
  have le_w16_w18 : w16.heap.size ≤ w18.heap.size := by omega
  try have lt_w16_w18 : w16.heap.size < w18.heap.size := by omega
  have le_w17_w18 : w17.heap.size ≤ w18.heap.size := by omega
  try have lt_w17_w18 : w17.heap.size < w18.heap.size := by omega
  go_wp2_with fail
  go_ret
  exact ⟨rfl, by repeat (first | assumption | exact Below.refl _ _ | (with_reducible refine Below.drew ?_) | (with_reducible refine below_drewN' ?_ _) | (with_reducible refine below_al ?_) | ((with_reducible refine below_set ?_ ?_); rotate_left; focus (first | (simp; done) | (simp; omega))))⟩
end Go.Proofs.YtmaocplnikijnaaDoor
