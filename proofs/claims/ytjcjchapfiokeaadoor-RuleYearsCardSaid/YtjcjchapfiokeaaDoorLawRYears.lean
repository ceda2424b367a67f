/- The walk of RuleYears: the law returns true for every input. Conditions: the table of months' lengths lies as the program's text lays it. -/
import Derived.Test.YtjcjchapfiokeaaDoorRulShown
import Derived.Test.YtjcjchapfiokeaaDoorRulL
namespace Go.Proofs.YtjcjchapfiokeaaDoor
open Go.RowKit
set_option linter.unusedVariables false
set_option maxHeartbeats 4000000 in
theorem ruleYears_1 (kd mo da kk off sh fr to fr' to' y : Int) (hm : Rul.may kd mo da kk off sh fr to = false) (w : World) (hL : Laid w) : Calls Tryd.prog 8 #[.agg #[.int .i64 kd, .int .i64 mo, .int .i64 da, .int .i64 kk, .int .i64 off, .int .i64 sh, .int .i64 fr, .int .i64 to, .int .i64 fr', .int .i64 to', .int .i64 y]] w fun e w' => e = .returned (.bool true) ∧ Below w.heap.size w w' := by
  have hB : Below w.heap.size w w := Below.refl _ _
  go_enter Tryd.func8, Tryd.ntmps8
  go_wp2_with fail
  refine (shown12_c _ (hL.below (by repeat (first | assumption | exact Below.refl _ _ | (with_reducible refine Below.drew ?_) | (with_reducible refine below_drewN' ?_ _) | (with_reducible refine below_al ?_) | ((with_reducible refine below_set ?_ ?_); rotate_left; focus (first | (simp; done) | (simp; omega))))))).mono ?_; rintro e w1 ⟨rfl, hb1⟩
  have hz1 := hb1.size; (try simp at hz1); obtain ⟨hc1, hf1⟩ := bcell hb1; have hB1 := below_step (w := w) hb1 (by repeat (first | assumption | exact Below.refl _ _ | (with_reducible refine Below.drew ?_) | (with_reducible refine below_drewN' ?_ _) | (with_reducible refine below_al ?_) | ((with_reducible refine below_set ?_ ?_); rotate_left; focus (first | (simp; done) | (simp; omega)))))
  have le_w_w1 : w.heap.size ≤ w1.heap.size := by omega
  try have lt_w_w1 : w.heap.size < w1.heap.size := by omega
  have le1_w_w1 : w.heap.size + 1 ≤ w1.heap.size := by omega
  try have lt1_w_w1 : w.heap.size + 1 < w1.heap.size := by omega
  go_wp2_with fail
  refine (rruleMay_c _ _ _ _ _ _ _ _ _).mono ?_; rintro e w2 ⟨rfl, hb2⟩
  have hz2 := hb2.size; (try simp at hz2); obtain ⟨hc2, hf2⟩ := bcell hb2; have hB2 := below_step (w := w) hb2 (by repeat (first | assumption | exact Below.refl _ _ | (with_reducible refine Below.drew ?_) | (with_reducible refine below_drewN' ?_ _) | (with_reducible refine below_al ?_) | ((with_reducible refine below_set ?_ ?_); rotate_left; focus (first | (simp; done) | (simp; omega)))))
  have le_w_w2 : w.heap.size ≤ w2.heap.size := by omega
  try have lt_w_w2 : w.heap.size < w2.heap.size := by omega
  have le1_w_w2 : w.heap.size + 1 ≤ w2.heap.size := by omega
  try have lt1_w_w2 : w.heap.size + 1 < w2.heap.size := by omega
  have le_w1_w2 : w1.heap.size ≤ w2.heap.size := by omega
  try have lt_w1_w2 : w1.heap.size < w2.heap.size := by omega
  go_wp2_with fail
  go_ret
  exact ⟨rfl, by repeat (first | assumption | exact Below.refl _ _ | (with_reducible refine Below.drew ?_) | (with_reducible refine below_drewN' ?_ _) | (with_reducible refine below_al ?_) | ((with_reducible refine below_set ?_ ?_); rotate_left; focus (first | (simp; done) | (simp; omega))))⟩
set_option maxHeartbeats 4000000 in
theorem ruleYears_2 (kd mo da kk off sh fr to fr' to' y : Int) (hm : Rul.may kd mo da kk off sh fr to = true) (hm' : Rul.may kd mo da kk off sh fr' to' = false) (w : World) (hL : Laid w) : Calls Tryd.prog 8 #[.agg #[.int .i64 kd, .int .i64 mo, .int .i64 da, .int .i64 kk, .int .i64 off, .int .i64 sh, .int .i64 fr, .int .i64 to, .int .i64 fr', .int .i64 to', .int .i64 y]] w fun e w' => e = .returned (.bool true) ∧ Below w.heap.size w w' := by
  have hB : Below w.heap.size w w := Below.refl _ _
  go_enter Tryd.func8, Tryd.ntmps8
  go_wp2_with fail
  refine (shown12_c _ (hL.below (by repeat (first | assumption | exact Below.refl _ _ | (with_reducible refine Below.drew ?_) | (with_reducible refine below_drewN' ?_ _) | (with_reducible refine below_al ?_) | ((with_reducible refine below_set ?_ ?_); rotate_left; focus (first | (simp; done) | (simp; omega))))))).mono ?_; rintro e w1 ⟨rfl, hb1⟩
  have hz1 := hb1.size; (try simp at hz1); obtain ⟨hc1, hf1⟩ := bcell hb1; have hB1 := below_step (w := w) hb1 (by repeat (first | assumption | exact Below.refl _ _ | (with_reducible refine Below.drew ?_) | (with_reducible refine below_drewN' ?_ _) | (with_reducible refine below_al ?_) | ((with_reducible refine below_set ?_ ?_); rotate_left; focus (first | (simp; done) | (simp; omega)))))
  have le_w_w1 : w.heap.size ≤ w1.heap.size := by omega
  try have lt_w_w1 : w.heap.size < w1.heap.size := by omega
  have le1_w_w1 : w.heap.size + 1 ≤ w1.heap.size := by omega
  try have lt1_w_w1 : w.heap.size + 1 < w1.heap.size := by omega
  go_wp2_with fail
  refine (rruleMay_c _ _ _ _ _ _ _ _ _).mono ?_; rintro e w2 ⟨rfl, hb2⟩
  have hz2 := hb2.size; (try simp at hz2); obtain ⟨hc2, hf2⟩ := bcell hb2; have hB2 := below_step (w := w) hb2 (by repeat (first | assumption | exact Below.refl _ _ | (with_reducible refine Below.drew ?_) | (with_reducible refine below_drewN' ?_ _) | (with_reducible refine below_al ?_) | ((with_reducible refine below_set ?_ ?_); rotate_left; focus (first | (simp; done) | (simp; omega)))))
  have le_w_w2 : w.heap.size ≤ w2.heap.size := by omega
  try have lt_w_w2 : w.heap.size < w2.heap.size := by omega
  have le1_w_w2 : w.heap.size + 1 ≤ w2.heap.size := by omega
  try have lt1_w_w2 : w.heap.size + 1 < w2.heap.size := by omega
  have le_w1_w2 : w1.heap.size ≤ w2.heap.size := by omega
  try have lt_w1_w2 : w1.heap.size < w2.heap.size := by omega
  go_wp2_with fail
  refine (rruleMay_c _ _ _ _ _ _ _ _ _).mono ?_; rintro e w3 ⟨rfl, hb3⟩
  have hz3 := hb3.size; (try simp at hz3); obtain ⟨hc3, hf3⟩ := bcell hb3; have hB3 := below_step (w := w) hb3 (by repeat (first | assumption | exact Below.refl _ _ | (with_reducible refine Below.drew ?_) | (with_reducible refine below_drewN' ?_ _) | (with_reducible refine below_al ?_) | ((with_reducible refine below_set ?_ ?_); rotate_left; focus (first | (simp; done) | (simp; omega)))))
  have le_w_w3 : w.heap.size ≤ w3.heap.size := by omega
  try have lt_w_w3 : w.heap.size < w3.heap.size := by omega
  have le1_w_w3 : w.heap.size + 1 ≤ w3.heap.size := by omega
  try have lt1_w_w3 : w.heap.size + 1 < w3.heap.size := by omega
  have le_w1_w3 : w1.heap.size ≤ w3.heap.size := by omega
  try have lt_w1_w3 : w1.heap.size < w3.heap.size := by omega
  have le_w2_w3 : w2.heap.size ≤ w3.heap.size := by omega
  try have lt_w2_w3 : w2.heap.size < w3.heap.size := by omega
  go_wp2_with fail
  go_ret
  exact ⟨rfl, by repeat (first | assumption | exact Below.refl _ _ | (with_reducible refine Below.drew ?_) | (with_reducible refine below_drewN' ?_ _) | (with_reducible refine below_al ?_) | ((with_reducible refine below_set ?_ ?_); rotate_left; focus (first | (simp; done) | (simp; omega))))⟩
set_option maxHeartbeats 4000000 in
theorem ruleYears_3 (kd mo da kk off sh fr to fr' to' y : Int) (hm : Rul.may kd mo da kk off sh fr to = true) (hm' : Rul.may kd mo da kk off sh fr' to' = true) (hp : Hid (Rul.mayP kd mo da kk off sh fr to)) (hp' : Hid (Rul.mayP kd mo da kk off sh fr' to')) (c1 : y < fr') (hv' : Rul.ins kd mo da kk off sh fr' to' y = 0) (p : Rul.pos 0 = false) (w : World) (hL : Laid w) : Calls Tryd.prog 8 #[.agg #[.int .i64 kd, .int .i64 mo, .int .i64 da, .int .i64 kk, .int .i64 off, .int .i64 sh, .int .i64 fr, .int .i64 to, .int .i64 fr', .int .i64 to', .int .i64 y]] w fun e w' => e = .returned (.bool true) ∧ Below w.heap.size w w' := by
  have hB : Below w.heap.size w w := Below.refl _ _
  go_enter Tryd.func8, Tryd.ntmps8
  go_wp2_with fail
  refine (shown12_c _ (hL.below (by repeat (first | assumption | exact Below.refl _ _ | (with_reducible refine Below.drew ?_) | (with_reducible refine below_drewN' ?_ _) | (with_reducible refine below_al ?_) | ((with_reducible refine below_set ?_ ?_); rotate_left; focus (first | (simp; done) | (simp; omega))))))).mono ?_; rintro e w1 ⟨rfl, hb1⟩
  have hz1 := hb1.size; (try simp at hz1); obtain ⟨hc1, hf1⟩ := bcell hb1; have hB1 := below_step (w := w) hb1 (by repeat (first | assumption | exact Below.refl _ _ | (with_reducible refine Below.drew ?_) | (with_reducible refine below_drewN' ?_ _) | (with_reducible refine below_al ?_) | ((with_reducible refine below_set ?_ ?_); rotate_left; focus (first | (simp; done) | (simp; omega)))))
  have le_w_w1 : w.heap.size ≤ w1.heap.size := by omega
  try have lt_w_w1 : w.heap.size < w1.heap.size := by omega
  have le1_w_w1 : w.heap.size + 1 ≤ w1.heap.size := by omega
  try have lt1_w_w1 : w.heap.size + 1 < w1.heap.size := by omega
  go_wp2_with fail
  refine (rruleMay_c _ _ _ _ _ _ _ _ _).mono ?_; rintro e w2 ⟨rfl, hb2⟩
  have hz2 := hb2.size; (try simp at hz2); obtain ⟨hc2, hf2⟩ := bcell hb2; have hB2 := below_step (w := w) hb2 (by repeat (first | assumption | exact Below.refl _ _ | (with_reducible refine Below.drew ?_) | (with_reducible refine below_drewN' ?_ _) | (with_reducible refine below_al ?_) | ((with_reducible refine below_set ?_ ?_); rotate_left; focus (first | (simp; done) | (simp; omega)))))
  have le_w_w2 : w.heap.size ≤ w2.heap.size := by omega
  try have lt_w_w2 : w.heap.size < w2.heap.size := by omega
  have le1_w_w2 : w.heap.size + 1 ≤ w2.heap.size := by omega
  try have lt1_w_w2 : w.heap.size + 1 < w2.heap.size := by omega
  have le_w1_w2 : w1.heap.size ≤ w2.heap.size := by omega
  try have lt_w1_w2 : w1.heap.size < w2.heap.size := by omega
  go_wp2_with fail
  refine (rruleMay_c _ _ _ _ _ _ _ _ _).mono ?_; rintro e w3 ⟨rfl, hb3⟩
  have hz3 := hb3.size; (try simp at hz3); obtain ⟨hc3, hf3⟩ := bcell hb3; have hB3 := below_step (w := w) hb3 (by repeat (first | assumption | exact Below.refl _ _ | (with_reducible refine Below.drew ?_) | (with_reducible refine below_drewN' ?_ _) | (with_reducible refine below_al ?_) | ((with_reducible refine below_set ?_ ?_); rotate_left; focus (first | (simp; done) | (simp; omega)))))
  have le_w_w3 : w.heap.size ≤ w3.heap.size := by omega
  try have lt_w_w3 : w.heap.size < w3.heap.size := by omega
  have le1_w_w3 : w.heap.size + 1 ≤ w3.heap.size := by omega
  try have lt1_w_w3 : w.heap.size + 1 < w3.heap.size := by omega
  have le_w1_w3 : w1.heap.size ≤ w3.heap.size := by omega
  try have lt_w1_w3 : w1.heap.size < w3.heap.size := by omega
  have le_w2_w3 : w2.heap.size ≤ w3.heap.size := by omega
  try have lt_w2_w3 : w2.heap.size < w3.heap.size := by omega
  go_wp2_with fail
  refine (ruleIn_c _ _ _ _ _ _ _ _ _ hp.out _ (hL.below (by repeat (first | assumption | exact Below.refl _ _ | (with_reducible refine Below.drew ?_) | (with_reducible refine below_drewN' ?_ _) | (with_reducible refine below_al ?_) | ((with_reducible refine below_set ?_ ?_); rotate_left; focus (first | (simp; done) | (simp; omega))))))).mono ?_; rintro e w4 ⟨rfl, hb4⟩
  have hz4 := hb4.size; (try simp at hz4); obtain ⟨hc4, hf4⟩ := bcell hb4; have hB4 := below_step (w := w) hb4 (by repeat (first | assumption | exact Below.refl _ _ | (with_reducible refine Below.drew ?_) | (with_reducible refine below_drewN' ?_ _) | (with_reducible refine below_al ?_) | ((with_reducible refine below_set ?_ ?_); rotate_left; focus (first | (simp; done) | (simp; omega)))))
  have le_w_w4 : w.heap.size ≤ w4.heap.size := by omega
  try have lt_w_w4 : w.heap.size < w4.heap.size := by omega
  have le1_w_w4 : w.heap.size + 1 ≤ w4.heap.size := by omega
  try have lt1_w_w4 : w.heap.size + 1 < w4.heap.size := by omega
  have le_w1_w4 : w1.heap.size ≤ w4.heap.size := by omega
  try have lt_w1_w4 : w1.heap.size < w4.heap.size := by omega
  have le_w2_w4 : w2.heap.size ≤ w4.heap.size := by omega
  try have lt_w2_w4 : w2.heap.size < w4.heap.size := by omega
  have le_w3_w4 : w3.heap.size ≤ w4.heap.size := by omega
  try have lt_w3_w4 : w3.heap.size < w4.heap.size := by omega
  go_wp2_with fail
  refine (ruleIn_c _ _ _ _ _ _ _ _ _ hp'.out _ (hL.below (by repeat (first | assumption | exact Below.refl _ _ | (with_reducible refine Below.drew ?_) | (with_reducible refine below_drewN' ?_ _) | (with_reducible refine below_al ?_) | ((with_reducible refine below_set ?_ ?_); rotate_left; focus (first | (simp; done) | (simp; omega))))))).mono ?_; rintro e w5 ⟨rfl, hb5⟩
  have hz5 := hb5.size; (try simp at hz5); obtain ⟨hc5, hf5⟩ := bcell hb5; have hB5 := below_step (w := w) hb5 (by repeat (first | assumption | exact Below.refl _ _ | (with_reducible refine Below.drew ?_) | (with_reducible refine below_drewN' ?_ _) | (with_reducible refine below_al ?_) | ((with_reducible refine below_set ?_ ?_); rotate_left; focus (first | (simp; done) | (simp; omega)))))
  have le_w_w5 : w.heap.size ≤ w5.heap.size := by omega
  try have lt_w_w5 : w.heap.size < w5.heap.size := by omega
  have le1_w_w5 : w.heap.size + 1 ≤ w5.heap.size := by omega
  try have lt1_w_w5 : w.heap.size + 1 < w5.heap.size := by omega
  have le_w1_w5 : w1.heap.size ≤ w5.heap.size := by omega
  try have lt_w1_w5 : w1.heap.size < w5.heap.size := by omega
  have le_w2_w5 : w2.heap.size ≤ w5.heap.size := by omega
  try have lt_w2_w5 : w2.heap.size < w5.heap.size := by omega
  have le_w3_w5 : w3.heap.size ≤ w5.heap.size := by omega
  try have lt_w3_w5 : w3.heap.size < w5.heap.size := by omega
  have le_w4_w5 : w4.heap.size ≤ w5.heap.size := by omega
  try have lt_w4_w5 : w4.heap.size < w5.heap.size := by omega
  go_wp2_with fail
  go_ret
  exact ⟨rfl, by repeat (first | assumption | exact Below.refl _ _ | (with_reducible refine Below.drew ?_) | (with_reducible refine below_drewN' ?_ _) | (with_reducible refine below_al ?_) | ((with_reducible refine below_set ?_ ?_); rotate_left; focus (first | (simp; done) | (simp; omega))))⟩
set_option maxHeartbeats 4000000 in
theorem ruleYears_4 (kd mo da kk off sh fr to fr' to' y : Int) (hm : Rul.may kd mo da kk off sh fr to = true) (hm' : Rul.may kd mo da kk off sh fr' to' = true) (hp : Hid (Rul.mayP kd mo da kk off sh fr to)) (hp' : Hid (Rul.mayP kd mo da kk off sh fr' to')) (c1 : ¬ y < fr') (c2 : to' < y) (hv' : Rul.ins kd mo da kk off sh fr' to' y = 0) (p : Rul.pos 0 = false) (w : World) (hL : Laid w) : Calls Tryd.prog 8 #[.agg #[.int .i64 kd, .int .i64 mo, .int .i64 da, .int .i64 kk, .int .i64 off, .int .i64 sh, .int .i64 fr, .int .i64 to, .int .i64 fr', .int .i64 to', .int .i64 y]] w fun e w' => e = .returned (.bool true) ∧ Below w.heap.size w w' := by
  have hB : Below w.heap.size w w := Below.refl _ _
  go_enter Tryd.func8, Tryd.ntmps8
  go_wp2_with fail
  refine (shown12_c _ (hL.below (by repeat (first | assumption | exact Below.refl _ _ | (with_reducible refine Below.drew ?_) | (with_reducible refine below_drewN' ?_ _) | (with_reducible refine below_al ?_) | ((with_reducible refine below_set ?_ ?_); rotate_left; focus (first | (simp; done) | (simp; omega))))))).mono ?_; rintro e w1 ⟨rfl, hb1⟩
  have hz1 := hb1.size; (try simp at hz1); obtain ⟨hc1, hf1⟩ := bcell hb1; have hB1 := below_step (w := w) hb1 (by repeat (first | assumption | exact Below.refl _ _ | (with_reducible refine Below.drew ?_) | (with_reducible refine below_drewN' ?_ _) | (with_reducible refine below_al ?_) | ((with_reducible refine below_set ?_ ?_); rotate_left; focus (first | (simp; done) | (simp; omega)))))
  have le_w_w1 : w.heap.size ≤ w1.heap.size := by omega
  try have lt_w_w1 : w.heap.size < w1.heap.size := by omega
  have le1_w_w1 : w.heap.size + 1 ≤ w1.heap.size := by omega
  try have lt1_w_w1 : w.heap.size + 1 < w1.heap.size := by omega
  go_wp2_with fail
  refine (rruleMay_c _ _ _ _ _ _ _ _ _).mono ?_; rintro e w2 ⟨rfl, hb2⟩
  have hz2 := hb2.size; (try simp at hz2); obtain ⟨hc2, hf2⟩ := bcell hb2; have hB2 := below_step (w := w) hb2 (by repeat (first | assumption | exact Below.refl _ _ | (with_reducible refine Below.drew ?_) | (with_reducible refine below_drewN' ?_ _) | (with_reducible refine below_al ?_) | ((with_reducible refine below_set ?_ ?_); rotate_left; focus (first | (simp; done) | (simp; omega)))))
  have le_w_w2 : w.heap.size ≤ w2.heap.size := by omega
  try have lt_w_w2 : w.heap.size < w2.heap.size := by omega
  have le1_w_w2 : w.heap.size + 1 ≤ w2.heap.size := by omega
  try have lt1_w_w2 : w.heap.size + 1 < w2.heap.size := by omega
  have le_w1_w2 : w1.heap.size ≤ w2.heap.size := by omega
  try have lt_w1_w2 : w1.heap.size < w2.heap.size := by omega
  go_wp2_with fail
  refine (rruleMay_c _ _ _ _ _ _ _ _ _).mono ?_; rintro e w3 ⟨rfl, hb3⟩
  have hz3 := hb3.size; (try simp at hz3); obtain ⟨hc3, hf3⟩ := bcell hb3; have hB3 := below_step (w := w) hb3 (by repeat (first | assumption | exact Below.refl _ _ | (with_reducible refine Below.drew ?_) | (with_reducible refine below_drewN' ?_ _) | (with_reducible refine below_al ?_) | ((with_reducible refine below_set ?_ ?_); rotate_left; focus (first | (simp; done) | (simp; omega)))))
  have le_w_w3 : w.heap.size ≤ w3.heap.size := by omega
  try have lt_w_w3 : w.heap.size < w3.heap.size := by omega
  have le1_w_w3 : w.heap.size + 1 ≤ w3.heap.size := by omega
  try have lt1_w_w3 : w.heap.size + 1 < w3.heap.size := by omega
  have le_w1_w3 : w1.heap.size ≤ w3.heap.size := by omega
  try have lt_w1_w3 : w1.heap.size < w3.heap.size := by omega
  have le_w2_w3 : w2.heap.size ≤ w3.heap.size := by omega
  try have lt_w2_w3 : w2.heap.size < w3.heap.size := by omega
  go_wp2_with fail
  refine (ruleIn_c _ _ _ _ _ _ _ _ _ hp.out _ (hL.below (by repeat (first | assumption | exact Below.refl _ _ | (with_reducible refine Below.drew ?_) | (with_reducible refine below_drewN' ?_ _) | (with_reducible refine below_al ?_) | ((with_reducible refine below_set ?_ ?_); rotate_left; focus (first | (simp; done) | (simp; omega))))))).mono ?_; rintro e w4 ⟨rfl, hb4⟩
  have hz4 := hb4.size; (try simp at hz4); obtain ⟨hc4, hf4⟩ := bcell hb4; have hB4 := below_step (w := w) hb4 (by repeat (first | assumption | exact Below.refl _ _ | (with_reducible refine Below.drew ?_) | (with_reducible refine below_drewN' ?_ _) | (with_reducible refine below_al ?_) | ((with_reducible refine below_set ?_ ?_); rotate_left; focus (first | (simp; done) | (simp; omega)))))
  have le_w_w4 : w.heap.size ≤ w4.heap.size := by omega
  try have lt_w_w4 : w.heap.size < w4.heap.size := by omega
  have le1_w_w4 : w.heap.size + 1 ≤ w4.heap.size := by omega
  try have lt1_w_w4 : w.heap.size + 1 < w4.heap.size := by omega
  have le_w1_w4 : w1.heap.size ≤ w4.heap.size := by omega
  try have lt_w1_w4 : w1.heap.size < w4.heap.size := by omega
  have le_w2_w4 : w2.heap.size ≤ w4.heap.size := by omega
  try have lt_w2_w4 : w2.heap.size < w4.heap.size := by omega
  have le_w3_w4 : w3.heap.size ≤ w4.heap.size := by omega
  try have lt_w3_w4 : w3.heap.size < w4.heap.size := by omega
  go_wp2_with fail
  refine (ruleIn_c _ _ _ _ _ _ _ _ _ hp'.out _ (hL.below (by repeat (first | assumption | exact Below.refl _ _ | (with_reducible refine Below.drew ?_) | (with_reducible refine below_drewN' ?_ _) | (with_reducible refine below_al ?_) | ((with_reducible refine below_set ?_ ?_); rotate_left; focus (first | (simp; done) | (simp; omega))))))).mono ?_; rintro e w5 ⟨rfl, hb5⟩
  have hz5 := hb5.size; (try simp at hz5); obtain ⟨hc5, hf5⟩ := bcell hb5; have hB5 := below_step (w := w) hb5 (by repeat (first | assumption | exact Below.refl _ _ | (with_reducible refine Below.drew ?_) | (with_reducible refine below_drewN' ?_ _) | (with_reducible refine below_al ?_) | ((with_reducible refine below_set ?_ ?_); rotate_left; focus (first | (simp; done) | (simp; omega)))))
  have le_w_w5 : w.heap.size ≤ w5.heap.size := by omega
  try have lt_w_w5 : w.heap.size < w5.heap.size := by omega
  have le1_w_w5 : w.heap.size + 1 ≤ w5.heap.size := by omega
  try have lt1_w_w5 : w.heap.size + 1 < w5.heap.size := by omega
  have le_w1_w5 : w1.heap.size ≤ w5.heap.size := by omega
  try have lt_w1_w5 : w1.heap.size < w5.heap.size := by omega
  have le_w2_w5 : w2.heap.size ≤ w5.heap.size := by omega
  try have lt_w2_w5 : w2.heap.size < w5.heap.size := by omega
  have le_w3_w5 : w3.heap.size ≤ w5.heap.size := by omega
  try have lt_w3_w5 : w3.heap.size < w5.heap.size := by omega
  have le_w4_w5 : w4.heap.size ≤ w5.heap.size := by omega
  try have lt_w4_w5 : w4.heap.size < w5.heap.size := by omega
  go_wp2_with fail
  go_ret
  exact ⟨rfl, by repeat (first | assumption | exact Below.refl _ _ | (with_reducible refine Below.drew ?_) | (with_reducible refine below_drewN' ?_ _) | (with_reducible refine below_al ?_) | ((with_reducible refine below_set ?_ ?_); rotate_left; focus (first | (simp; done) | (simp; omega))))⟩
set_option maxHeartbeats 4000000 in
theorem ruleYears_5 (kd mo da kk off sh fr to fr' to' y : Int) (hm : Rul.may kd mo da kk off sh fr to = true) (hm' : Rul.may kd mo da kk off sh fr' to' = true) (hp : Hid (Rul.mayP kd mo da kk off sh fr to)) (hp' : Hid (Rul.mayP kd mo da kk off sh fr' to')) (c1 : ¬ y < fr') (c2 : ¬ to' < y) (d1 : y < fr) (hv : Rul.ins kd mo da kk off sh fr to y = 0) (p : Rul.pos 0 = false) (w : World) (hL : Laid w) : Calls Tryd.prog 8 #[.agg #[.int .i64 kd, .int .i64 mo, .int .i64 da, .int .i64 kk, .int .i64 off, .int .i64 sh, .int .i64 fr, .int .i64 to, .int .i64 fr', .int .i64 to', .int .i64 y]] w fun e w' => e = .returned (.bool true) ∧ Below w.heap.size w w' := by
  have hB : Below w.heap.size w w := Below.refl _ _
  go_enter Tryd.func8, Tryd.ntmps8
  go_wp2_with fail
  refine (shown12_c _ (hL.below (by repeat (first | assumption | exact Below.refl _ _ | (with_reducible refine Below.drew ?_) | (with_reducible refine below_drewN' ?_ _) | (with_reducible refine below_al ?_) | ((with_reducible refine below_set ?_ ?_); rotate_left; focus (first | (simp; done) | (simp; omega))))))).mono ?_; rintro e w1 ⟨rfl, hb1⟩
  have hz1 := hb1.size; (try simp at hz1); obtain ⟨hc1, hf1⟩ := bcell hb1; have hB1 := below_step (w := w) hb1 (by repeat (first | assumption | exact Below.refl _ _ | (with_reducible refine Below.drew ?_) | (with_reducible refine below_drewN' ?_ _) | (with_reducible refine below_al ?_) | ((with_reducible refine below_set ?_ ?_); rotate_left; focus (first | (simp; done) | (simp; omega)))))
  have le_w_w1 : w.heap.size ≤ w1.heap.size := by omega
  try have lt_w_w1 : w.heap.size < w1.heap.size := by omega
  have le1_w_w1 : w.heap.size + 1 ≤ w1.heap.size := by omega
  try have lt1_w_w1 : w.heap.size + 1 < w1.heap.size := by omega
  go_wp2_with fail
  refine (rruleMay_c _ _ _ _ _ _ _ _ _).mono ?_; rintro e w2 ⟨rfl, hb2⟩
  have hz2 := hb2.size; (try simp at hz2); obtain ⟨hc2, hf2⟩ := bcell hb2; have hB2 := below_step (w := w) hb2 (by repeat (first | assumption | exact Below.refl _ _ | (with_reducible refine Below.drew ?_) | (with_reducible refine below_drewN' ?_ _) | (with_reducible refine below_al ?_) | ((with_reducible refine below_set ?_ ?_); rotate_left; focus (first | (simp; done) | (simp; omega)))))
  have le_w_w2 : w.heap.size ≤ w2.heap.size := by omega
  try have lt_w_w2 : w.heap.size < w2.heap.size := by omega
  have le1_w_w2 : w.heap.size + 1 ≤ w2.heap.size := by omega
  try have lt1_w_w2 : w.heap.size + 1 < w2.heap.size := by omega
  have le_w1_w2 : w1.heap.size ≤ w2.heap.size := by omega
  try have lt_w1_w2 : w1.heap.size < w2.heap.size := by omega
  go_wp2_with fail
  refine (rruleMay_c _ _ _ _ _ _ _ _ _).mono ?_; rintro e w3 ⟨rfl, hb3⟩
  have hz3 := hb3.size; (try simp at hz3); obtain ⟨hc3, hf3⟩ := bcell hb3; have hB3 := below_step (w := w) hb3 (by repeat (first | assumption | exact Below.refl _ _ | (with_reducible refine Below.drew ?_) | (with_reducible refine below_drewN' ?_ _) | (with_reducible refine below_al ?_) | ((with_reducible refine below_set ?_ ?_); rotate_left; focus (first | (simp; done) | (simp; omega)))))
  have le_w_w3 : w.heap.size ≤ w3.heap.size := by omega
  try have lt_w_w3 : w.heap.size < w3.heap.size := by omega
  have le1_w_w3 : w.heap.size + 1 ≤ w3.heap.size := by omega
  try have lt1_w_w3 : w.heap.size + 1 < w3.heap.size := by omega
  have le_w1_w3 : w1.heap.size ≤ w3.heap.size := by omega
  try have lt_w1_w3 : w1.heap.size < w3.heap.size := by omega
  have le_w2_w3 : w2.heap.size ≤ w3.heap.size := by omega
  try have lt_w2_w3 : w2.heap.size < w3.heap.size := by omega
  go_wp2_with fail
  refine (ruleIn_c _ _ _ _ _ _ _ _ _ hp.out _ (hL.below (by repeat (first | assumption | exact Below.refl _ _ | (with_reducible refine Below.drew ?_) | (with_reducible refine below_drewN' ?_ _) | (with_reducible refine below_al ?_) | ((with_reducible refine below_set ?_ ?_); rotate_left; focus (first | (simp; done) | (simp; omega))))))).mono ?_; rintro e w4 ⟨rfl, hb4⟩
  have hz4 := hb4.size; (try simp at hz4); obtain ⟨hc4, hf4⟩ := bcell hb4; have hB4 := below_step (w := w) hb4 (by repeat (first | assumption | exact Below.refl _ _ | (with_reducible refine Below.drew ?_) | (with_reducible refine below_drewN' ?_ _) | (with_reducible refine below_al ?_) | ((with_reducible refine below_set ?_ ?_); rotate_left; focus (first | (simp; done) | (simp; omega)))))
  have le_w_w4 : w.heap.size ≤ w4.heap.size := by omega
  try have lt_w_w4 : w.heap.size < w4.heap.size := by omega
  have le1_w_w4 : w.heap.size + 1 ≤ w4.heap.size := by omega
  try have lt1_w_w4 : w.heap.size + 1 < w4.heap.size := by omega
  have le_w1_w4 : w1.heap.size ≤ w4.heap.size := by omega
  try have lt_w1_w4 : w1.heap.size < w4.heap.size := by omega
  have le_w2_w4 : w2.heap.size ≤ w4.heap.size := by omega
  try have lt_w2_w4 : w2.heap.size < w4.heap.size := by omega
  have le_w3_w4 : w3.heap.size ≤ w4.heap.size := by omega
  try have lt_w3_w4 : w3.heap.size < w4.heap.size := by omega
  go_wp2_with fail
  refine (ruleIn_c _ _ _ _ _ _ _ _ _ hp'.out _ (hL.below (by repeat (first | assumption | exact Below.refl _ _ | (with_reducible refine Below.drew ?_) | (with_reducible refine below_drewN' ?_ _) | (with_reducible refine below_al ?_) | ((with_reducible refine below_set ?_ ?_); rotate_left; focus (first | (simp; done) | (simp; omega))))))).mono ?_; rintro e w5 ⟨rfl, hb5⟩
  have hz5 := hb5.size; (try simp at hz5); obtain ⟨hc5, hf5⟩ := bcell hb5; have hB5 := below_step (w := w) hb5 (by repeat (first | assumption | exact Below.refl _ _ | (with_reducible refine Below.drew ?_) | (with_reducible refine below_drewN' ?_ _) | (with_reducible refine below_al ?_) | ((with_reducible refine below_set ?_ ?_); rotate_left; focus (first | (simp; done) | (simp; omega)))))
  have le_w_w5 : w.heap.size ≤ w5.heap.size := by omega
  try have lt_w_w5 : w.heap.size < w5.heap.size := by omega
  have le1_w_w5 : w.heap.size + 1 ≤ w5.heap.size := by omega
  try have lt1_w_w5 : w.heap.size + 1 < w5.heap.size := by omega
  have le_w1_w5 : w1.heap.size ≤ w5.heap.size := by omega
  try have lt_w1_w5 : w1.heap.size < w5.heap.size := by omega
  have le_w2_w5 : w2.heap.size ≤ w5.heap.size := by omega
  try have lt_w2_w5 : w2.heap.size < w5.heap.size := by omega
  have le_w3_w5 : w3.heap.size ≤ w5.heap.size := by omega
  try have lt_w3_w5 : w3.heap.size < w5.heap.size := by omega
  have le_w4_w5 : w4.heap.size ≤ w5.heap.size := by omega
  try have lt_w4_w5 : w4.heap.size < w5.heap.size := by omega
  go_wp2_with fail
  go_ret
  exact ⟨rfl, by repeat (first | assumption | exact Below.refl _ _ | (with_reducible refine Below.drew ?_) | (with_reducible refine below_drewN' ?_ _) | (with_reducible refine below_al ?_) | ((with_reducible refine below_set ?_ ?_); rotate_left; focus (first | (simp; done) | (simp; omega))))⟩
set_option maxHeartbeats 4000000 in
theorem ruleYears_6 (kd mo da kk off sh fr to fr' to' y : Int) (hm : Rul.may kd mo da kk off sh fr to = true) (hm' : Rul.may kd mo da kk off sh fr' to' = true) (hp : Hid (Rul.mayP kd mo da kk off sh fr to)) (hp' : Hid (Rul.mayP kd mo da kk off sh fr' to')) (c1 : ¬ y < fr') (c2 : ¬ to' < y) (d1 : ¬ y < fr) (d2 : to < y) (hv : Rul.ins kd mo da kk off sh fr to y = 0) (p : Rul.pos 0 = false) (w : World) (hL : Laid w) : Calls Tryd.prog 8 #[.agg #[.int .i64 kd, .int .i64 mo, .int .i64 da, .int .i64 kk, .int .i64 off, .int .i64 sh, .int .i64 fr, .int .i64 to, .int .i64 fr', .int .i64 to', .int .i64 y]] w fun e w' => e = .returned (.bool true) ∧ Below w.heap.size w w' := by
  have hB : Below w.heap.size w w := Below.refl _ _
  go_enter Tryd.func8, Tryd.ntmps8
  go_wp2_with fail
  refine (shown12_c _ (hL.below (by repeat (first | assumption | exact Below.refl _ _ | (with_reducible refine Below.drew ?_) | (with_reducible refine below_drewN' ?_ _) | (with_reducible refine below_al ?_) | ((with_reducible refine below_set ?_ ?_); rotate_left; focus (first | (simp; done) | (simp; omega))))))).mono ?_; rintro e w1 ⟨rfl, hb1⟩
  have hz1 := hb1.size; (try simp at hz1); obtain ⟨hc1, hf1⟩ := bcell hb1; have hB1 := below_step (w := w) hb1 (by repeat (first | assumption | exact Below.refl _ _ | (with_reducible refine Below.drew ?_) | (with_reducible refine below_drewN' ?_ _) | (with_reducible refine below_al ?_) | ((with_reducible refine below_set ?_ ?_); rotate_left; focus (first | (simp; done) | (simp; omega)))))
  have le_w_w1 : w.heap.size ≤ w1.heap.size := by omega
  try have lt_w_w1 : w.heap.size < w1.heap.size := by omega
  have le1_w_w1 : w.heap.size + 1 ≤ w1.heap.size := by omega
  try have lt1_w_w1 : w.heap.size + 1 < w1.heap.size := by omega
  go_wp2_with fail
  refine (rruleMay_c _ _ _ _ _ _ _ _ _).mono ?_; rintro e w2 ⟨rfl, hb2⟩
  have hz2 := hb2.size; (try simp at hz2); obtain ⟨hc2, hf2⟩ := bcell hb2; have hB2 := below_step (w := w) hb2 (by repeat (first | assumption | exact Below.refl _ _ | (with_reducible refine Below.drew ?_) | (with_reducible refine below_drewN' ?_ _) | (with_reducible refine below_al ?_) | ((with_reducible refine below_set ?_ ?_); rotate_left; focus (first | (simp; done) | (simp; omega)))))
  have le_w_w2 : w.heap.size ≤ w2.heap.size := by omega
  try have lt_w_w2 : w.heap.size < w2.heap.size := by omega
  have le1_w_w2 : w.heap.size + 1 ≤ w2.heap.size := by omega
  try have lt1_w_w2 : w.heap.size + 1 < w2.heap.size := by omega
  have le_w1_w2 : w1.heap.size ≤ w2.heap.size := by omega
  try have lt_w1_w2 : w1.heap.size < w2.heap.size := by omega
  go_wp2_with fail
  refine (rruleMay_c _ _ _ _ _ _ _ _ _).mono ?_; rintro e w3 ⟨rfl, hb3⟩
  have hz3 := hb3.size; (try simp at hz3); obtain ⟨hc3, hf3⟩ := bcell hb3; have hB3 := below_step (w := w) hb3 (by repeat (first | assumption | exact Below.refl _ _ | (with_reducible refine Below.drew ?_) | (with_reducible refine below_drewN' ?_ _) | (with_reducible refine below_al ?_) | ((with_reducible refine below_set ?_ ?_); rotate_left; focus (first | (simp; done) | (simp; omega)))))
  have le_w_w3 : w.heap.size ≤ w3.heap.size := by omega
  try have lt_w_w3 : w.heap.size < w3.heap.size := by omega
  have le1_w_w3 : w.heap.size + 1 ≤ w3.heap.size := by omega
  try have lt1_w_w3 : w.heap.size + 1 < w3.heap.size := by omega
  have le_w1_w3 : w1.heap.size ≤ w3.heap.size := by omega
  try have lt_w1_w3 : w1.heap.size < w3.heap.size := by omega
  have le_w2_w3 : w2.heap.size ≤ w3.heap.size := by omega
  try have lt_w2_w3 : w2.heap.size < w3.heap.size := by omega
  go_wp2_with fail
  refine (ruleIn_c _ _ _ _ _ _ _ _ _ hp.out _ (hL.below (by repeat (first | assumption | exact Below.refl _ _ | (with_reducible refine Below.drew ?_) | (with_reducible refine below_drewN' ?_ _) | (with_reducible refine below_al ?_) | ((with_reducible refine below_set ?_ ?_); rotate_left; focus (first | (simp; done) | (simp; omega))))))).mono ?_; rintro e w4 ⟨rfl, hb4⟩
  have hz4 := hb4.size; (try simp at hz4); obtain ⟨hc4, hf4⟩ := bcell hb4; have hB4 := below_step (w := w) hb4 (by repeat (first | assumption | exact Below.refl _ _ | (with_reducible refine Below.drew ?_) | (with_reducible refine below_drewN' ?_ _) | (with_reducible refine below_al ?_) | ((with_reducible refine below_set ?_ ?_); rotate_left; focus (first | (simp; done) | (simp; omega)))))
  have le_w_w4 : w.heap.size ≤ w4.heap.size := by omega
  try have lt_w_w4 : w.heap.size < w4.heap.size := by omega
  have le1_w_w4 : w.heap.size + 1 ≤ w4.heap.size := by omega
  try have lt1_w_w4 : w.heap.size + 1 < w4.heap.size := by omega
  have le_w1_w4 : w1.heap.size ≤ w4.heap.size := by omega
  try have lt_w1_w4 : w1.heap.size < w4.heap.size := by omega
  have le_w2_w4 : w2.heap.size ≤ w4.heap.size := by omega
  try have lt_w2_w4 : w2.heap.size < w4.heap.size := by omega
  have le_w3_w4 : w3.heap.size ≤ w4.heap.size := by omega
  try have lt_w3_w4 : w3.heap.size < w4.heap.size := by omega
  go_wp2_with fail
  refine (ruleIn_c _ _ _ _ _ _ _ _ _ hp'.out _ (hL.below (by repeat (first | assumption | exact Below.refl _ _ | (with_reducible refine Below.drew ?_) | (with_reducible refine below_drewN' ?_ _) | (with_reducible refine below_al ?_) | ((with_reducible refine below_set ?_ ?_); rotate_left; focus (first | (simp; done) | (simp; omega))))))).mono ?_; rintro e w5 ⟨rfl, hb5⟩
  have hz5 := hb5.size; (try simp at hz5); obtain ⟨hc5, hf5⟩ := bcell hb5; have hB5 := below_step (w := w) hb5 (by repeat (first | assumption | exact Below.refl _ _ | (with_reducible refine Below.drew ?_) | (with_reducible refine below_drewN' ?_ _) | (with_reducible refine below_al ?_) | ((with_reducible refine below_set ?_ ?_); rotate_left; focus (first | (simp; done) | (simp; omega)))))
  have le_w_w5 : w.heap.size ≤ w5.heap.size := by omega
  try have lt_w_w5 : w.heap.size < w5.heap.size := by omega
  have le1_w_w5 : w.heap.size + 1 ≤ w5.heap.size := by omega
  try have lt1_w_w5 : w.heap.size + 1 < w5.heap.size := by omega
  have le_w1_w5 : w1.heap.size ≤ w5.heap.size := by omega
  try have lt_w1_w5 : w1.heap.size < w5.heap.size := by omega
  have le_w2_w5 : w2.heap.size ≤ w5.heap.size := by omega
  try have lt_w2_w5 : w2.heap.size < w5.heap.size := by omega
  have le_w3_w5 : w3.heap.size ≤ w5.heap.size := by omega
  try have lt_w3_w5 : w3.heap.size < w5.heap.size := by omega
  have le_w4_w5 : w4.heap.size ≤ w5.heap.size := by omega
  try have lt_w4_w5 : w4.heap.size < w5.heap.size := by omega
  go_wp2_with fail
  go_ret
  exact ⟨rfl, by repeat (first | assumption | exact Below.refl _ _ | (with_reducible refine Below.drew ?_) | (with_reducible refine below_drewN' ?_ _) | (with_reducible refine below_al ?_) | ((with_reducible refine below_set ?_ ?_); rotate_left; focus (first | (simp; done) | (simp; omega))))⟩
set_option maxHeartbeats 4000000 in
theorem ruleYears_7 (kd mo da kk off sh fr to fr' to' y : Int) (hm : Rul.may kd mo da kk off sh fr to = true) (hm' : Rul.may kd mo da kk off sh fr' to' = true) (hp : Hid (Rul.mayP kd mo da kk off sh fr to)) (hp' : Hid (Rul.mayP kd mo da kk off sh fr' to')) (v : Int) (c1 : ¬ y < fr') (c2 : ¬ to' < y) (d1 : ¬ y < fr) (d2 : ¬ to < y) (hv : Rul.ins kd mo da kk off sh fr to y = v) (hv' : Rul.ins kd mo da kk off sh fr' to' y = v) (w : World) (hL : Laid w) : Calls Tryd.prog 8 #[.agg #[.int .i64 kd, .int .i64 mo, .int .i64 da, .int .i64 kk, .int .i64 off, .int .i64 sh, .int .i64 fr, .int .i64 to, .int .i64 fr', .int .i64 to', .int .i64 y]] w fun e w' => e = .returned (.bool true) ∧ Below w.heap.size w w' := by
  have hB : Below w.heap.size w w := Below.refl _ _
  go_enter Tryd.func8, Tryd.ntmps8
  go_wp2_with fail
  refine (shown12_c _ (hL.below (by repeat (first | assumption | exact Below.refl _ _ | (with_reducible refine Below.drew ?_) | (with_reducible refine below_drewN' ?_ _) | (with_reducible refine below_al ?_) | ((with_reducible refine below_set ?_ ?_); rotate_left; focus (first | (simp; done) | (simp; omega))))))).mono ?_; rintro e w1 ⟨rfl, hb1⟩
  have hz1 := hb1.size; (try simp at hz1); obtain ⟨hc1, hf1⟩ := bcell hb1; have hB1 := below_step (w := w) hb1 (by repeat (first | assumption | exact Below.refl _ _ | (with_reducible refine Below.drew ?_) | (with_reducible refine below_drewN' ?_ _) | (with_reducible refine below_al ?_) | ((with_reducible refine below_set ?_ ?_); rotate_left; focus (first | (simp; done) | (simp; omega)))))
  have le_w_w1 : w.heap.size ≤ w1.heap.size := by omega
  try have lt_w_w1 : w.heap.size < w1.heap.size := by omega
  have le1_w_w1 : w.heap.size + 1 ≤ w1.heap.size := by omega
  try have lt1_w_w1 : w.heap.size + 1 < w1.heap.size := by omega
  go_wp2_with fail
  refine (rruleMay_c _ _ _ _ _ _ _ _ _).mono ?_; rintro e w2 ⟨rfl, hb2⟩
  have hz2 := hb2.size; (try simp at hz2); obtain ⟨hc2, hf2⟩ := bcell hb2; have hB2 := below_step (w := w) hb2 (by repeat (first | assumption | exact Below.refl _ _ | (with_reducible refine Below.drew ?_) | (with_reducible refine below_drewN' ?_ _) | (with_reducible refine below_al ?_) | ((with_reducible refine below_set ?_ ?_); rotate_left; focus (first | (simp; done) | (simp; omega)))))
  have le_w_w2 : w.heap.size ≤ w2.heap.size := by omega
  try have lt_w_w2 : w.heap.size < w2.heap.size := by omega
  have le1_w_w2 : w.heap.size + 1 ≤ w2.heap.size := by omega
  try have lt1_w_w2 : w.heap.size + 1 < w2.heap.size := by omega
  have le_w1_w2 : w1.heap.size ≤ w2.heap.size := by omega
  try have lt_w1_w2 : w1.heap.size < w2.heap.size := by omega
  go_wp2_with fail
  refine (rruleMay_c _ _ _ _ _ _ _ _ _).mono ?_; rintro e w3 ⟨rfl, hb3⟩
  have hz3 := hb3.size; (try simp at hz3); obtain ⟨hc3, hf3⟩ := bcell hb3; have hB3 := below_step (w := w) hb3 (by repeat (first | assumption | exact Below.refl _ _ | (with_reducible refine Below.drew ?_) | (with_reducible refine below_drewN' ?_ _) | (with_reducible refine below_al ?_) | ((with_reducible refine below_set ?_ ?_); rotate_left; focus (first | (simp; done) | (simp; omega)))))
  have le_w_w3 : w.heap.size ≤ w3.heap.size := by omega
  try have lt_w_w3 : w.heap.size < w3.heap.size := by omega
  have le1_w_w3 : w.heap.size + 1 ≤ w3.heap.size := by omega
  try have lt1_w_w3 : w.heap.size + 1 < w3.heap.size := by omega
  have le_w1_w3 : w1.heap.size ≤ w3.heap.size := by omega
  try have lt_w1_w3 : w1.heap.size < w3.heap.size := by omega
  have le_w2_w3 : w2.heap.size ≤ w3.heap.size := by omega
  try have lt_w2_w3 : w2.heap.size < w3.heap.size := by omega
  go_wp2_with fail
  refine (ruleIn_c _ _ _ _ _ _ _ _ _ hp.out _ (hL.below (by repeat (first | assumption | exact Below.refl _ _ | (with_reducible refine Below.drew ?_) | (with_reducible refine below_drewN' ?_ _) | (with_reducible refine below_al ?_) | ((with_reducible refine below_set ?_ ?_); rotate_left; focus (first | (simp; done) | (simp; omega))))))).mono ?_; rintro e w4 ⟨rfl, hb4⟩
  have hz4 := hb4.size; (try simp at hz4); obtain ⟨hc4, hf4⟩ := bcell hb4; have hB4 := below_step (w := w) hb4 (by repeat (first | assumption | exact Below.refl _ _ | (with_reducible refine Below.drew ?_) | (with_reducible refine below_drewN' ?_ _) | (with_reducible refine below_al ?_) | ((with_reducible refine below_set ?_ ?_); rotate_left; focus (first | (simp; done) | (simp; omega)))))
  have le_w_w4 : w.heap.size ≤ w4.heap.size := by omega
  try have lt_w_w4 : w.heap.size < w4.heap.size := by omega
  have le1_w_w4 : w.heap.size + 1 ≤ w4.heap.size := by omega
  try have lt1_w_w4 : w.heap.size + 1 < w4.heap.size := by omega
  have le_w1_w4 : w1.heap.size ≤ w4.heap.size := by omega
  try have lt_w1_w4 : w1.heap.size < w4.heap.size := by omega
  have le_w2_w4 : w2.heap.size ≤ w4.heap.size := by omega
  try have lt_w2_w4 : w2.heap.size < w4.heap.size := by omega
  have le_w3_w4 : w3.heap.size ≤ w4.heap.size := by omega
  try have lt_w3_w4 : w3.heap.size < w4.heap.size := by omega
  go_wp2_with fail
  refine (ruleIn_c _ _ _ _ _ _ _ _ _ hp'.out _ (hL.below (by repeat (first | assumption | exact Below.refl _ _ | (with_reducible refine Below.drew ?_) | (with_reducible refine below_drewN' ?_ _) | (with_reducible refine below_al ?_) | ((with_reducible refine below_set ?_ ?_); rotate_left; focus (first | (simp; done) | (simp; omega))))))).mono ?_; rintro e w5 ⟨rfl, hb5⟩
  have hz5 := hb5.size; (try simp at hz5); obtain ⟨hc5, hf5⟩ := bcell hb5; have hB5 := below_step (w := w) hb5 (by repeat (first | assumption | exact Below.refl _ _ | (with_reducible refine Below.drew ?_) | (with_reducible refine below_drewN' ?_ _) | (with_reducible refine below_al ?_) | ((with_reducible refine below_set ?_ ?_); rotate_left; focus (first | (simp; done) | (simp; omega)))))
  have le_w_w5 : w.heap.size ≤ w5.heap.size := by omega
  try have lt_w_w5 : w.heap.size < w5.heap.size := by omega
  have le1_w_w5 : w.heap.size + 1 ≤ w5.heap.size := by omega
  try have lt1_w_w5 : w.heap.size + 1 < w5.heap.size := by omega
  have le_w1_w5 : w1.heap.size ≤ w5.heap.size := by omega
  try have lt_w1_w5 : w1.heap.size < w5.heap.size := by omega
  have le_w2_w5 : w2.heap.size ≤ w5.heap.size := by omega
  try have lt_w2_w5 : w2.heap.size < w5.heap.size := by omega
  have le_w3_w5 : w3.heap.size ≤ w5.heap.size := by omega
  try have lt_w3_w5 : w3.heap.size < w5.heap.size := by omega
  have le_w4_w5 : w4.heap.size ≤ w5.heap.size := by omega
  try have lt_w4_w5 : w4.heap.size < w5.heap.size := by omega
  go_wp2_with fail
  go_ret
  exact ⟨rfl, by repeat (first | assumption | exact Below.refl _ _ | (with_reducible refine Below.drew ?_) | (with_reducible refine below_drewN' ?_ _) | (with_reducible refine below_al ?_) | ((with_reducible refine below_set ?_ ?_); rotate_left; focus (first | (simp; done) | (simp; omega))))⟩
theorem ruleYears_walk (kd mo da kk off sh fr to fr' to' y : Int) (w : World) (hL : Laid w) : Calls Tryd.prog 8 #[.agg #[.int .i64 kd, .int .i64 mo, .int .i64 da, .int .i64 kk, .int .i64 off, .int .i64 sh, .int .i64 fr, .int .i64 to, .int .i64 fr', .int .i64 to', .int .i64 y]] w fun e w' => e = .returned (.bool true) ∧ Below w.heap.size w w' := by
  cases hm : Rul.may kd mo da kk off sh fr to
  · exact ruleYears_1 kd mo da kk off sh fr to fr' to' y hm w hL
  cases hm' : Rul.may kd mo da kk off sh fr' to'
  · exact ruleYears_2 kd mo da kk off sh fr to fr' to' y hm hm' w hL
  have hp := Rul.may_iff.1 hm
  have hp' := Rul.may_iff.1 hm'
  by_cases c1 : y < fr'
  · exact ruleYears_3 kd mo da kk off sh fr to fr' to' y hm hm' hp hp' c1 (Rul.ins_out (Or.inl c1)) rfl w hL
  by_cases c2 : to' < y
  · exact ruleYears_4 kd mo da kk off sh fr to fr' to' y hm hm' hp hp' c1 c2 (Rul.ins_out (Or.inr c2)) rfl w hL
  by_cases d1 : y < fr
  · exact ruleYears_5 kd mo da kk off sh fr to fr' to' y hm hm' hp hp' c1 c2 d1 (Rul.ins_out (Or.inl d1)) rfl w hL
  by_cases d2 : to < y
  · exact ruleYears_6 kd mo da kk off sh fr to fr' to' y hm hm' hp hp' c1 c2 d1 d2 (Rul.ins_out (Or.inr d2)) rfl w hL
  refine ruleYears_7 kd mo da kk off sh fr to fr' to' y hm hm' hp hp' _ c1 c2 d1 d2 rfl ?_ w hL
  unfold Rul.ins
  rw [Rul.ba_in (by omega) (by omega), Rul.ba_in (by omega) (by omega)]
end Go.Proofs.YtjcjchapfiokeaaDoor
