/- The head of the statements on rolls: the document's example holds. Conditions: the tables of months' lengths and of the ways' names lie as the program's text lays them. -/
import Derived.Test.YtlilffoflkkbdaaDoorRolC
import Derived.Test.YtlilffoflkkbdaaDoorLaid4
import Derived.Test.YtlilffoflkkbdaaDoorShIndex
import Derived.Test.YtlilffoflkkbdaaDoorDay
namespace Go.Proofs.YtlilffoflkkbdaaDoor
open Go.RowKit
set_option linter.unusedVariables false
theorem name0_c (w : World) (hN : Named w) : Calls Tryd.prog 28 #[.int .i64 0] w fun e w' => e = .returned (.string ⟨#[110, 111, 110, 101]⟩) ∧ w = w' := by
  have hc := hN.cell 0 (by decide)
  simp only [nms, List.getD_cons_zero] at hc
  go_enter Tryd.func28, Tryd.ntmps28
  go_wp2_with fail
  go_ret
  exact ⟨rfl, rfl⟩
theorem name5_c (w : World) : Calls Tryd.prog 28 #[.int .i64 5] w fun e w' => e = .returned (.string ⟨#[]⟩) ∧ w = w' := by
  go_enter Tryd.func28, Tryd.ntmps28
  go_wp2_with fail
  go_ret
  exact ⟨rfl, rfl⟩
theorem nidx_c (x : ByteArray) (c : Nat) (w : World) (hN : Named w) : Calls Tryd.prog 50 #[.slice (some ⟨0, 0, none⟩) 5 c, .string x] w fun e w' => e = .returned (.int .i64 (Lib.idxOfS nms x)) ∧ w = w' := by
  have := Tryd.slices_Index_string 0 0 5 c nms x w (by decide) (by decide) (fun j hj => by rw [Nat.zero_add]; exact hN.cell j hj)
  exact this.mono fun e w' ⟨h1, h2⟩ => ⟨h1, h2.symm⟩
theorem kindP_c (w : World) (hN : Named w) : Calls Tryd.prog 26 #[.string ⟨#[112, 114, 101, 99, 101, 100, 105, 110, 103]⟩] w fun e w' => e = .returned (.tuple #[.int .i64 3, .int .i64 0]) ∧ w = w' := by
  have hi : Lib.idxOfS nms ⟨#[112, 114, 101, 99, 101, 100, 105, 110, 103]⟩ = 3 := by decide +kernel
  go_enter Tryd.func26, Tryd.ntmps26
  go_wp2_with fail
  refine (nidx_c _ _ _ hN).mono ?_; rintro e w' ⟨rfl, rfl⟩
  go_wp2_with fail
  go_ret2
  exact ⟨rfl, rfl⟩
/-- The calendar of the example. -/
def wkC : CalP := ⟨false, false, false, false, false, true, true, none, 0, [], none, 0, []⟩
theorem wk_in (w : World) : CalIn w wkC := ⟨Or.inl rfl, Or.inl rfl⟩
theorem wk_ok : CalOk wkC := ⟨(fun r h => by cases h), List.Pairwise.nil, (by decide), (by decide)⟩
theorem wk1 : rl wkC 739129 1 = (739131, 0) := by decide +kernel
theorem wk2 : rl wkC 739129 2 = (739128, 0) := by decide +kernel
theorem wk3 : sk wkC (-1) 61 739129 = (739128, 0) := by decide +kernel
theorem wk4 : sk wkC 1 61 739129 = (739131, 0) := by decide +kernel
theorem wk5 : rl wkC 739129 5 = (0, 1) := by decide +kernel
theorem wk6 : rl wkC 0 0 = (0, 3) := by decide +kernel
set_option maxRecDepth 100000 in
set_option maxHeartbeats 4000000 in
theorem shown14_c (w : World) (hL : Laid w) (hN : Named w) : Calls Tryd.prog 17 #[] w fun e w' => e = .returned (.bool true) ∧ Below w.heap.size w w' := by
  have a1 : numV 2024 8 31 = 739129 := by decide
  have a2 : numV 2024 9 2 = 739131 := by decide
  have a3 : numV 2024 8 30 = 739128 := by decide
  have hB : Below w.heap.size w w := Below.refl _ _
  go_enter Tryd.func17, Tryd.ntmps17
  go_wp2_with fail
  refine (day14_c _ _ _ _).mono ?_; rintro e w1 ⟨rfl, hb1⟩
  have hz1 := hb1.size; (try simp at hz1); obtain ⟨hc1, hf1⟩ := bcell hb1; have hB1 := below_step (w := w) hb1 (by repeat (first | assumption | exact Below.refl _ _ | (with_reducible refine Below.drew ?_) | (with_reducible refine below_drewN' ?_ _) | (with_reducible refine below_al ?_) | ((with_reducible refine below_set ?_ ?_); rotate_left; focus (first | (simp; done) | (simp; omega)))))
  have le_w_w1 : w.heap.size ≤ w1.heap.size := by omega
  try have lt_w_w1 : w.heap.size < w1.heap.size := by omega
  go_wp2_with fail
  refine (to_c wkC 739129 1 (by unfold I64; decide) wk_ok 739131 0 (Lib.hid wk1) _ (hL.below (by repeat (first | assumption | exact Below.refl _ _ | (with_reducible refine Below.drew ?_) | (with_reducible refine below_drewN' ?_ _) | (with_reducible refine below_al ?_) | ((with_reducible refine below_set ?_ ?_); rotate_left; focus (first | (simp; done) | (simp; omega)))))) (wk_in _)).mono ?_; rintro e w2 ⟨rfl, hb2⟩
  have hz2 := hb2.size; (try simp at hz2); obtain ⟨hc2, hf2⟩ := bcell hb2; have hB2 := below_step (w := w) hb2 (by repeat (first | assumption | exact Below.refl _ _ | (with_reducible refine Below.drew ?_) | (with_reducible refine below_drewN' ?_ _) | (with_reducible refine below_al ?_) | ((with_reducible refine below_set ?_ ?_); rotate_left; focus (first | (simp; done) | (simp; omega)))))
  have le_w_w2 : w.heap.size ≤ w2.heap.size := by omega
  try have lt_w_w2 : w.heap.size < w2.heap.size := by omega
  have le_w1_w2 : w1.heap.size ≤ w2.heap.size := by omega
  try have lt_w1_w2 : w1.heap.size < w2.heap.size := by omega
  go_wp2_with fail
  refine (to_c wkC 739129 2 (by unfold I64; decide) wk_ok 739128 0 (Lib.hid wk2) _ (hL.below (by repeat (first | assumption | exact Below.refl _ _ | (with_reducible refine Below.drew ?_) | (with_reducible refine below_drewN' ?_ _) | (with_reducible refine below_al ?_) | ((with_reducible refine below_set ?_ ?_); rotate_left; focus (first | (simp; done) | (simp; omega)))))) (wk_in _)).mono ?_; rintro e w3 ⟨rfl, hb3⟩
  have hz3 := hb3.size; (try simp at hz3); obtain ⟨hc3, hf3⟩ := bcell hb3; have hB3 := below_step (w := w) hb3 (by repeat (first | assumption | exact Below.refl _ _ | (with_reducible refine Below.drew ?_) | (with_reducible refine below_drewN' ?_ _) | (with_reducible refine below_al ?_) | ((with_reducible refine below_set ?_ ?_); rotate_left; focus (first | (simp; done) | (simp; omega)))))
  have le_w_w3 : w.heap.size ≤ w3.heap.size := by omega
  try have lt_w_w3 : w.heap.size < w3.heap.size := by omega
  have le_w1_w3 : w1.heap.size ≤ w3.heap.size := by omega
  try have lt_w1_w3 : w1.heap.size < w3.heap.size := by omega
  have le_w2_w3 : w2.heap.size ≤ w3.heap.size := by omega
  try have lt_w2_w3 : w2.heap.size < w3.heap.size := by omega
  go_wp2_with fail
  refine (prev_c wkC 739129 (by unfold I64; decide) wk_ok 739128 0 (Lib.hid wk3) _ (hL.below (by repeat (first | assumption | exact Below.refl _ _ | (with_reducible refine Below.drew ?_) | (with_reducible refine below_drewN' ?_ _) | (with_reducible refine below_al ?_) | ((with_reducible refine below_set ?_ ?_); rotate_left; focus (first | (simp; done) | (simp; omega)))))) (wk_in _)).mono ?_; rintro e w4 ⟨rfl, hb4⟩
  have hz4 := hb4.size; (try simp at hz4); obtain ⟨hc4, hf4⟩ := bcell hb4; have hB4 := below_step (w := w) hb4 (by repeat (first | assumption | exact Below.refl _ _ | (with_reducible refine Below.drew ?_) | (with_reducible refine below_drewN' ?_ _) | (with_reducible refine below_al ?_) | ((with_reducible refine below_set ?_ ?_); rotate_left; focus (first | (simp; done) | (simp; omega)))))
  have le_w_w4 : w.heap.size ≤ w4.heap.size := by omega
  try have lt_w_w4 : w.heap.size < w4.heap.size := by omega
  have le_w1_w4 : w1.heap.size ≤ w4.heap.size := by omega
  try have lt_w1_w4 : w1.heap.size < w4.heap.size := by omega
  have le_w2_w4 : w2.heap.size ≤ w4.heap.size := by omega
  try have lt_w2_w4 : w2.heap.size < w4.heap.size := by omega
  have le_w3_w4 : w3.heap.size ≤ w4.heap.size := by omega
  try have lt_w3_w4 : w3.heap.size < w4.heap.size := by omega
  go_wp2_with fail
  refine (next_c wkC 739129 (by unfold I64; decide) wk_ok 739131 0 (Lib.hid wk4) _ (hL.below (by repeat (first | assumption | exact Below.refl _ _ | (with_reducible refine Below.drew ?_) | (with_reducible refine below_drewN' ?_ _) | (with_reducible refine below_al ?_) | ((with_reducible refine below_set ?_ ?_); rotate_left; focus (first | (simp; done) | (simp; omega)))))) (wk_in _)).mono ?_; rintro e w5 ⟨rfl, hb5⟩
  have hz5 := hb5.size; (try simp at hz5); obtain ⟨hc5, hf5⟩ := bcell hb5; have hB5 := below_step (w := w) hb5 (by repeat (first | assumption | exact Below.refl _ _ | (with_reducible refine Below.drew ?_) | (with_reducible refine below_drewN' ?_ _) | (with_reducible refine below_al ?_) | ((with_reducible refine below_set ?_ ?_); rotate_left; focus (first | (simp; done) | (simp; omega)))))
  have le_w_w5 : w.heap.size ≤ w5.heap.size := by omega
  try have lt_w_w5 : w.heap.size < w5.heap.size := by omega
  have le_w1_w5 : w1.heap.size ≤ w5.heap.size := by omega
  try have lt_w1_w5 : w1.heap.size < w5.heap.size := by omega
  have le_w2_w5 : w2.heap.size ≤ w5.heap.size := by omega
  try have lt_w2_w5 : w2.heap.size < w5.heap.size := by omega
  have le_w3_w5 : w3.heap.size ≤ w5.heap.size := by omega
  try have lt_w3_w5 : w3.heap.size < w5.heap.size := by omega
  have le_w4_w5 : w4.heap.size ≤ w5.heap.size := by omega
  try have lt_w4_w5 : w4.heap.size < w5.heap.size := by omega
  go_wp2_with fail
  refine (to_c wkC 739129 5 (by unfold I64; decide) wk_ok 0 1 (Lib.hid wk5) _ (hL.below (by repeat (first | assumption | exact Below.refl _ _ | (with_reducible refine Below.drew ?_) | (with_reducible refine below_drewN' ?_ _) | (with_reducible refine below_al ?_) | ((with_reducible refine below_set ?_ ?_); rotate_left; focus (first | (simp; done) | (simp; omega)))))) (wk_in _)).mono ?_; rintro e w6 ⟨rfl, hb6⟩
  have hz6 := hb6.size; (try simp at hz6); obtain ⟨hc6, hf6⟩ := bcell hb6; have hB6 := below_step (w := w) hb6 (by repeat (first | assumption | exact Below.refl _ _ | (with_reducible refine Below.drew ?_) | (with_reducible refine below_drewN' ?_ _) | (with_reducible refine below_al ?_) | ((with_reducible refine below_set ?_ ?_); rotate_left; focus (first | (simp; done) | (simp; omega)))))
  have le_w_w6 : w.heap.size ≤ w6.heap.size := by omega
  try have lt_w_w6 : w.heap.size < w6.heap.size := by omega
  have le_w1_w6 : w1.heap.size ≤ w6.heap.size := by omega
  try have lt_w1_w6 : w1.heap.size < w6.heap.size := by omega
  have le_w2_w6 : w2.heap.size ≤ w6.heap.size := by omega
  try have lt_w2_w6 : w2.heap.size < w6.heap.size := by omega
  have le_w3_w6 : w3.heap.size ≤ w6.heap.size := by omega
  try have lt_w3_w6 : w3.heap.size < w6.heap.size := by omega
  have le_w4_w6 : w4.heap.size ≤ w6.heap.size := by omega
  try have lt_w4_w6 : w4.heap.size < w6.heap.size := by omega
  have le_w5_w6 : w5.heap.size ≤ w6.heap.size := by omega
  try have lt_w5_w6 : w5.heap.size < w6.heap.size := by omega
  go_wp2_with fail
  refine (to_c wkC 0 0 (by unfold I64; decide) wk_ok 0 3 (Lib.hid wk6) _ (hL.below (by repeat (first | assumption | exact Below.refl _ _ | (with_reducible refine Below.drew ?_) | (with_reducible refine below_drewN' ?_ _) | (with_reducible refine below_al ?_) | ((with_reducible refine below_set ?_ ?_); rotate_left; focus (first | (simp; done) | (simp; omega)))))) (wk_in _)).mono ?_; rintro e w7 ⟨rfl, hb7⟩
  have hz7 := hb7.size; (try simp at hz7); obtain ⟨hc7, hf7⟩ := bcell hb7; have hB7 := below_step (w := w) hb7 (by repeat (first | assumption | exact Below.refl _ _ | (with_reducible refine Below.drew ?_) | (with_reducible refine below_drewN' ?_ _) | (with_reducible refine below_al ?_) | ((with_reducible refine below_set ?_ ?_); rotate_left; focus (first | (simp; done) | (simp; omega)))))
  have le_w_w7 : w.heap.size ≤ w7.heap.size := by omega
  try have lt_w_w7 : w.heap.size < w7.heap.size := by omega
  have le_w1_w7 : w1.heap.size ≤ w7.heap.size := by omega
  try have lt_w1_w7 : w1.heap.size < w7.heap.size := by omega
  have le_w2_w7 : w2.heap.size ≤ w7.heap.size := by omega
  try have lt_w2_w7 : w2.heap.size < w7.heap.size := by omega
  have le_w3_w7 : w3.heap.size ≤ w7.heap.size := by omega
  try have lt_w3_w7 : w3.heap.size < w7.heap.size := by omega
  have le_w4_w7 : w4.heap.size ≤ w7.heap.size := by omega
  try have lt_w4_w7 : w4.heap.size < w7.heap.size := by omega
  have le_w5_w7 : w5.heap.size ≤ w7.heap.size := by omega
  try have lt_w5_w7 : w5.heap.size < w7.heap.size := by omega
  have le_w6_w7 : w6.heap.size ≤ w7.heap.size := by omega
  try have lt_w6_w7 : w6.heap.size < w7.heap.size := by omega
  go_wp2_with fail
  refine (kindP_c _ (hN.below (by repeat (first | assumption | exact Below.refl _ _ | (with_reducible refine Below.drew ?_) | (with_reducible refine below_drewN' ?_ _) | (with_reducible refine below_al ?_) | ((with_reducible refine below_set ?_ ?_); rotate_left; focus (first | (simp; done) | (simp; omega))))))).mono ?_; rintro e w' ⟨rfl, rfl⟩
  go_wp2_with fail
  refine (day14_c _ _ _ _).mono ?_; rintro e w8 ⟨rfl, hb8⟩
  have hz8 := hb8.size; (try simp at hz8); obtain ⟨hc8, hf8⟩ := bcell hb8; have hB8 := below_step (w := w) hb8 (by repeat (first | assumption | exact Below.refl _ _ | (with_reducible refine Below.drew ?_) | (with_reducible refine below_drewN' ?_ _) | (with_reducible refine below_al ?_) | ((with_reducible refine below_set ?_ ?_); rotate_left; focus (first | (simp; done) | (simp; omega)))))
  have le_w_w8 : w.heap.size ≤ w8.heap.size := by omega
  try have lt_w_w8 : w.heap.size < w8.heap.size := by omega
  have le_w1_w8 : w1.heap.size ≤ w8.heap.size := by omega
  try have lt_w1_w8 : w1.heap.size < w8.heap.size := by omega
  have le_w2_w8 : w2.heap.size ≤ w8.heap.size := by omega
  try have lt_w2_w8 : w2.heap.size < w8.heap.size := by omega
  have le_w3_w8 : w3.heap.size ≤ w8.heap.size := by omega
  try have lt_w3_w8 : w3.heap.size < w8.heap.size := by omega
  have le_w4_w8 : w4.heap.size ≤ w8.heap.size := by omega
  try have lt_w4_w8 : w4.heap.size < w8.heap.size := by omega
  have le_w5_w8 : w5.heap.size ≤ w8.heap.size := by omega
  try have lt_w5_w8 : w5.heap.size < w8.heap.size := by omega
  have le_w6_w8 : w6.heap.size ≤ w8.heap.size := by omega
  try have lt_w6_w8 : w6.heap.size < w8.heap.size := by omega
  have le_w7_w8 : w7.heap.size ≤ w8.heap.size := by omega
  try have lt_w7_w8 : w7.heap.size < w8.heap.size := by omega
  go_wp2_with fail
  refine (day14_c _ _ _ _).mono ?_; rintro e w9 ⟨rfl, hb9⟩
  have hz9 := hb9.size; (try simp at hz9); obtain ⟨hc9, hf9⟩ := bcell hb9; have hB9 := below_step (w := w) hb9 (by repeat (first | assumption | exact Below.refl _ _ | (with_reducible refine Below.drew ?_) | (with_reducible refine below_drewN' ?_ _) | (with_reducible refine below_al ?_) | ((with_reducible refine below_set ?_ ?_); rotate_left; focus (first | (simp; done) | (simp; omega)))))
  have le_w_w9 : w.heap.size ≤ w9.heap.size := by omega
  try have lt_w_w9 : w.heap.size < w9.heap.size := by omega
  have le_w1_w9 : w1.heap.size ≤ w9.heap.size := by omega
  try have lt_w1_w9 : w1.heap.size < w9.heap.size := by omega
  have le_w2_w9 : w2.heap.size ≤ w9.heap.size := by omega
  try have lt_w2_w9 : w2.heap.size < w9.heap.size := by omega
  have le_w3_w9 : w3.heap.size ≤ w9.heap.size := by omega
  try have lt_w3_w9 : w3.heap.size < w9.heap.size := by omega
  have le_w4_w9 : w4.heap.size ≤ w9.heap.size := by omega
  try have lt_w4_w9 : w4.heap.size < w9.heap.size := by omega
  have le_w5_w9 : w5.heap.size ≤ w9.heap.size := by omega
  try have lt_w5_w9 : w5.heap.size < w9.heap.size := by omega
  have le_w6_w9 : w6.heap.size ≤ w9.heap.size := by omega
  try have lt_w6_w9 : w6.heap.size < w9.heap.size := by omega
  have le_w7_w9 : w7.heap.size ≤ w9.heap.size := by omega
  try have lt_w7_w9 : w7.heap.size < w9.heap.size := by omega
  have le_w8_w9 : w8.heap.size ≤ w9.heap.size := by omega
  try have lt_w8_w9 : w8.heap.size < w9.heap.size := by omega
  go_wp2_with fail
  refine (name0_c _ (hN.below (by repeat (first | assumption | exact Below.refl _ _ | (with_reducible refine Below.drew ?_) | (with_reducible refine below_drewN' ?_ _) | (with_reducible refine below_al ?_) | ((with_reducible refine below_set ?_ ?_); rotate_left; focus (first | (simp; done) | (simp; omega))))))).mono ?_; rintro e w' ⟨rfl, rfl⟩
  go_wp2_with fail
  refine (name5_c _).mono ?_; rintro e w' ⟨rfl, rfl⟩
  go_wp2_with fail
  go_ret
  exact ⟨rfl, by repeat (first | assumption | exact Below.refl _ _ | (with_reducible refine Below.drew ?_) | (with_reducible refine below_drewN' ?_ _) | (with_reducible refine below_al ?_) | ((with_reducible refine below_set ?_ ?_); rotate_left; focus (first | (simp; done) | (simp; omega))))⟩
end Go.Proofs.YtlilffoflkkbdaaDoor
