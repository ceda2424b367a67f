/- The walk of CivilMonths: for every month the law returns true. Conditions: the table of months' lengths lies as the program's text lays it. -/
import Derived.Test.YtfcapdifenbcnaaDoorCivShown
import Derived.Test.YtfcapdifenbcnaaDoorCalMore
namespace Go.Proofs.YtfcapdifenbcnaaDoor
open Go.RowKit
set_option linter.unusedVariables false
set_option maxHeartbeats 1000000 in
theorem civilMonths_mid (a b c p q k : Int) (a0 : 0 ≤ a) (a1 : a ≤ 65535) (b0 : 0 ≤ b) (b1 : b ≤ 255) (c0 : 0 ≤ c) (c1 : c ≤ 255) (hp : 1 + a % 9999 = p) (hq : 1 + b % 12 = q) (hk : 1 + c % Cal.len p q = k) (p1 : 1 ≤ p) (p2 : p ≤ 9999) (q1 : 1 ≤ q) (q2 : q ≤ 12) (k1 : 1 ≤ k) (k2 : k ≤ Cal.len p q) (hm : (q == 12) = false) (q3 : q ≤ 11) (p9 : (p == 9999) = false) (w : World) (hL : Laid w) : Calls Tryd.prog 13 #[.int .u16 a, .int .u8 b, .int .u8 c] w fun e w' => e = .returned (.bool true) ∧ Below w.heap.size w w' := by
  obtain ⟨l1, l2⟩ := Cal.len_bd p q q1 q2
  have g1 : Cal.mayB p q 1 = true := (Cal.mayB_iff _ _ _).2 ⟨p1, p2, by omega, by omega⟩
  have g2 : Cal.mayB p q k = true := (Cal.mayB_iff _ _ _).2 ⟨p1, p2, k1, k2⟩
  have g3 : Cal.mayB p q (Cal.len p q) = true := (Cal.mayB_iff _ _ _).2 ⟨p1, p2, by omega, by omega⟩
  have g4 : Cal.mayB p q (Cal.len p q + 1) = false := mayB_ff (by omega)
  have n2 : Cal.num p q k = Cal.num p q 1 + k - 1 := by unfold Cal.num; omega
  have n3 : Cal.num p q (Cal.len p q) = Cal.num p q 1 + Cal.len p q - 1 := by unfold Cal.num; omega
  obtain ⟨s1, s2⟩ := (Cal.day_mk g1).bd
  have g5 : Cal.mayB p (q + 1) 1 = true := (Cal.mayB_iff _ _ _).2 ⟨p1, p2, by omega, by have := Cal.len_bd p (q + 1) (by omega) (by omega); omega⟩
  have n5 : Cal.num p (q + 1) 1 = Cal.num p q 1 + Cal.len p q := by have := Cal.cum_succ p q q1 q2; unfold Cal.num; omega
  have hB : Below w.heap.size w w := Below.refl _ _
  go_enter Tryd.func13, Tryd.ntmps13
  go_wp2_with fail
  refine (shown04_c _ (hL.below (by repeat (first | assumption | exact Below.refl _ _ | (with_reducible refine Below.drew ?_) | (with_reducible refine below_drewN' ?_ _) | (with_reducible refine below_al ?_) | ((with_reducible refine below_set ?_ ?_); rotate_left; (simp; omega)))))).mono ?_; rintro e w1 ⟨rfl, hb1⟩
  have hz1 := hb1.size; (try simp at hz1); obtain ⟨hc1, hf1⟩ := bcell hb1; have hB1 := below_step (w := w) hb1 (by repeat (first | assumption | exact Below.refl _ _ | (with_reducible refine Below.drew ?_) | (with_reducible refine below_drewN' ?_ _) | (with_reducible refine below_al ?_) | ((with_reducible refine below_set ?_ ?_); rotate_left; (simp; omega))))
  have le_w_w1 : w.heap.size ≤ w1.heap.size := by omega
  try have lt_w_w1 : w.heap.size < w1.heap.size := by omega
  go_wp2_with fail
  refine (length_c _ _ _ (hL.below (by repeat (first | assumption | exact Below.refl _ _ | (with_reducible refine Below.drew ?_) | (with_reducible refine below_drewN' ?_ _) | (with_reducible refine below_al ?_) | ((with_reducible refine below_set ?_ ?_); rotate_left; (simp; omega)))))).mono ?_; rintro e w' ⟨rfl, rfl⟩
  go_wp2_with fail
  refine (number_yes _ _ _ _ (hL.below (by repeat (first | assumption | exact Below.refl _ _ | (with_reducible refine Below.drew ?_) | (with_reducible refine below_drewN' ?_ _) | (with_reducible refine below_al ?_) | ((with_reducible refine below_set ?_ ?_); rotate_left; (simp; omega))))) (by assumption)).mono ?_; rintro e w2 ⟨rfl, hb2⟩
  have hz2 := hb2.size; (try simp at hz2); obtain ⟨hc2, hf2⟩ := bcell hb2; have hB2 := below_step (w := w) hb2 (by repeat (first | assumption | exact Below.refl _ _ | (with_reducible refine Below.drew ?_) | (with_reducible refine below_drewN' ?_ _) | (with_reducible refine below_al ?_) | ((with_reducible refine below_set ?_ ?_); rotate_left; (simp; omega))))
  have le_w_w2 : w.heap.size ≤ w2.heap.size := by omega
  try have lt_w_w2 : w.heap.size < w2.heap.size := by omega
  have le_w1_w2 : w1.heap.size ≤ w2.heap.size := by omega
  try have lt_w1_w2 : w1.heap.size < w2.heap.size := by omega
  go_wp2_with fail
  refine (number_yes _ _ _ _ (hL.below (by repeat (first | assumption | exact Below.refl _ _ | (with_reducible refine Below.drew ?_) | (with_reducible refine below_drewN' ?_ _) | (with_reducible refine below_al ?_) | ((with_reducible refine below_set ?_ ?_); rotate_left; (simp; omega))))) (by assumption)).mono ?_; rintro e w3 ⟨rfl, hb3⟩
  have hz3 := hb3.size; (try simp at hz3); obtain ⟨hc3, hf3⟩ := bcell hb3; have hB3 := below_step (w := w) hb3 (by repeat (first | assumption | exact Below.refl _ _ | (with_reducible refine Below.drew ?_) | (with_reducible refine below_drewN' ?_ _) | (with_reducible refine below_al ?_) | ((with_reducible refine below_set ?_ ?_); rotate_left; (simp; omega))))
  have le_w_w3 : w.heap.size ≤ w3.heap.size := by omega
  try have lt_w_w3 : w.heap.size < w3.heap.size := by omega
  have le_w1_w3 : w1.heap.size ≤ w3.heap.size := by omega
  try have lt_w1_w3 : w1.heap.size < w3.heap.size := by omega
  have le_w2_w3 : w2.heap.size ≤ w3.heap.size := by omega
  try have lt_w2_w3 : w2.heap.size < w3.heap.size := by omega
  go_wp2_with fail
  refine (number_yes _ _ _ _ (hL.below (by repeat (first | assumption | exact Below.refl _ _ | (with_reducible refine Below.drew ?_) | (with_reducible refine below_drewN' ?_ _) | (with_reducible refine below_al ?_) | ((with_reducible refine below_set ?_ ?_); rotate_left; (simp; omega))))) (by assumption)).mono ?_; rintro e w4 ⟨rfl, hb4⟩
  have hz4 := hb4.size; (try simp at hz4); obtain ⟨hc4, hf4⟩ := bcell hb4; have hB4 := below_step (w := w) hb4 (by repeat (first | assumption | exact Below.refl _ _ | (with_reducible refine Below.drew ?_) | (with_reducible refine below_drewN' ?_ _) | (with_reducible refine below_al ?_) | ((with_reducible refine below_set ?_ ?_); rotate_left; (simp; omega))))
  have le_w_w4 : w.heap.size ≤ w4.heap.size := by omega
  try have lt_w_w4 : w.heap.size < w4.heap.size := by omega
  have le_w1_w4 : w1.heap.size ≤ w4.heap.size := by omega
  try have lt_w1_w4 : w1.heap.size < w4.heap.size := by omega
  have le_w2_w4 : w2.heap.size ≤ w4.heap.size := by omega
  try have lt_w2_w4 : w2.heap.size < w4.heap.size := by omega
  have le_w3_w4 : w3.heap.size ≤ w4.heap.size := by omega
  try have lt_w3_w4 : w3.heap.size < w4.heap.size := by omega
  go_wp2_with fail
  refine (may_c _ _ _ _ (hL.below (by repeat (first | assumption | exact Below.refl _ _ | (with_reducible refine Below.drew ?_) | (with_reducible refine below_drewN' ?_ _) | (with_reducible refine below_al ?_) | ((with_reducible refine below_set ?_ ?_); rotate_left; (simp; omega)))))).mono ?_; rintro e w5 ⟨rfl, hb5⟩
  have hz5 := hb5.size; (try simp at hz5); obtain ⟨hc5, hf5⟩ := bcell hb5; have hB5 := below_step (w := w) hb5 (by repeat (first | assumption | exact Below.refl _ _ | (with_reducible refine Below.drew ?_) | (with_reducible refine below_drewN' ?_ _) | (with_reducible refine below_al ?_) | ((with_reducible refine below_set ?_ ?_); rotate_left; (simp; omega))))
  have le_w_w5 : w.heap.size ≤ w5.heap.size := by omega
  try have lt_w_w5 : w.heap.size < w5.heap.size := by omega
  have le_w1_w5 : w1.heap.size ≤ w5.heap.size := by omega
  try have lt_w1_w5 : w1.heap.size < w5.heap.size := by omega
  have le_w2_w5 : w2.heap.size ≤ w5.heap.size := by omega
  try have lt_w2_w5 : w2.heap.size < w5.heap.size := by omega
  have le_w3_w5 : w3.heap.size ≤ w5.heap.size := by omega
  try have lt_w3_w5 : w3.heap.size < w5.heap.size := by omega
  have le_w4_w5 : w4.heap.size ≤ w5.heap.size := by omega
  try have lt_w4_w5 : w4.heap.size < w5.heap.size := by omega
  go_wp2_with fail
  refine (number_yes _ _ _ _ (hL.below (by repeat (first | assumption | exact Below.refl _ _ | (with_reducible refine Below.drew ?_) | (with_reducible refine below_drewN' ?_ _) | (with_reducible refine below_al ?_) | ((with_reducible refine below_set ?_ ?_); rotate_left; (simp; omega))))) (by assumption)).mono ?_; rintro e w6 ⟨rfl, hb6⟩
  have hz6 := hb6.size; (try simp at hz6); obtain ⟨hc6, hf6⟩ := bcell hb6; have hB6 := below_step (w := w) hb6 (by repeat (first | assumption | exact Below.refl _ _ | (with_reducible refine Below.drew ?_) | (with_reducible refine below_drewN' ?_ _) | (with_reducible refine below_al ?_) | ((with_reducible refine below_set ?_ ?_); rotate_left; (simp; omega))))
  have le_w_w6 : w.heap.size ≤ w6.heap.size := by omega
  try have lt_w_w6 : w.heap.size < w6.heap.size := by omega
  have le_w1_w6 : w1.heap.size ≤ w6.heap.size := by omega
  try have lt_w1_w6 : w1.heap.size < w6.heap.size := by omega
  have le_w2_w6 : w2.heap.size ≤ w6.heap.size := by omega
  try have lt_w2_w6 : w2.heap.size < w6.heap.size := by omega
  have le_w3_w6 : w3.heap.size ≤ w6.heap.size := by omega
  try have lt_w3_w6 : w3.heap.size < w6.heap.size := by omega
  have le_w4_w6 : w4.heap.size ≤ w6.heap.size := by omega
  try have lt_w4_w6 : w4.heap.size < w6.heap.size := by omega
  have le_w5_w6 : w5.heap.size ≤ w6.heap.size := by omega
  try have lt_w5_w6 : w5.heap.size < w6.heap.size := by omega
  go_wp2_with fail
  go_ret
  exact ⟨rfl, by repeat (first | assumption | exact Below.refl _ _ | (with_reducible refine Below.drew ?_) | (with_reducible refine below_drewN' ?_ _) | (with_reducible refine below_al ?_) | ((with_reducible refine below_set ?_ ?_); rotate_left; (simp; omega)))⟩
set_option maxHeartbeats 1000000 in
theorem civilMonths_mid9 (a b c p q k : Int) (a0 : 0 ≤ a) (a1 : a ≤ 65535) (b0 : 0 ≤ b) (b1 : b ≤ 255) (c0 : 0 ≤ c) (c1 : c ≤ 255) (hp : 1 + a % 9999 = p) (hq : 1 + b % 12 = q) (hk : 1 + c % Cal.len p q = k) (p1 : 1 ≤ p) (p2 : p ≤ 9999) (q1 : 1 ≤ q) (q2 : q ≤ 12) (k1 : 1 ≤ k) (k2 : k ≤ Cal.len p q) (hm : (q == 12) = false) (q3 : q ≤ 11) (p9 : (p == 9999) = true) (w : World) (hL : Laid w) : Calls Tryd.prog 13 #[.int .u16 a, .int .u8 b, .int .u8 c] w fun e w' => e = .returned (.bool true) ∧ Below w.heap.size w w' := by
  obtain ⟨l1, l2⟩ := Cal.len_bd p q q1 q2
  have g1 : Cal.mayB p q 1 = true := (Cal.mayB_iff _ _ _).2 ⟨p1, p2, by omega, by omega⟩
  have g2 : Cal.mayB p q k = true := (Cal.mayB_iff _ _ _).2 ⟨p1, p2, k1, k2⟩
  have g3 : Cal.mayB p q (Cal.len p q) = true := (Cal.mayB_iff _ _ _).2 ⟨p1, p2, by omega, by omega⟩
  have g4 : Cal.mayB p q (Cal.len p q + 1) = false := mayB_ff (by omega)
  have n2 : Cal.num p q k = Cal.num p q 1 + k - 1 := by unfold Cal.num; omega
  have n3 : Cal.num p q (Cal.len p q) = Cal.num p q 1 + Cal.len p q - 1 := by unfold Cal.num; omega
  obtain ⟨s1, s2⟩ := (Cal.day_mk g1).bd
  have g5 : Cal.mayB p (q + 1) 1 = true := (Cal.mayB_iff _ _ _).2 ⟨p1, p2, by omega, by have := Cal.len_bd p (q + 1) (by omega) (by omega); omega⟩
  have n5 : Cal.num p (q + 1) 1 = Cal.num p q 1 + Cal.len p q := by have := Cal.cum_succ p q q1 q2; unfold Cal.num; omega
  have hB : Below w.heap.size w w := Below.refl _ _
  go_enter Tryd.func13, Tryd.ntmps13
  go_wp2_with fail
  refine (shown04_c _ (hL.below (by repeat (first | assumption | exact Below.refl _ _ | (with_reducible refine Below.drew ?_) | (with_reducible refine below_drewN' ?_ _) | (with_reducible refine below_al ?_) | ((with_reducible refine below_set ?_ ?_); rotate_left; (simp; omega)))))).mono ?_; rintro e w1 ⟨rfl, hb1⟩
  have hz1 := hb1.size; (try simp at hz1); obtain ⟨hc1, hf1⟩ := bcell hb1; have hB1 := below_step (w := w) hb1 (by repeat (first | assumption | exact Below.refl _ _ | (with_reducible refine Below.drew ?_) | (with_reducible refine below_drewN' ?_ _) | (with_reducible refine below_al ?_) | ((with_reducible refine below_set ?_ ?_); rotate_left; (simp; omega))))
  have le_w_w1 : w.heap.size ≤ w1.heap.size := by omega
  try have lt_w_w1 : w.heap.size < w1.heap.size := by omega
  go_wp2_with fail
  refine (length_c _ _ _ (hL.below (by repeat (first | assumption | exact Below.refl _ _ | (with_reducible refine Below.drew ?_) | (with_reducible refine below_drewN' ?_ _) | (with_reducible refine below_al ?_) | ((with_reducible refine below_set ?_ ?_); rotate_left; (simp; omega)))))).mono ?_; rintro e w' ⟨rfl, rfl⟩
  go_wp2_with fail
  refine (number_yes _ _ _ _ (hL.below (by repeat (first | assumption | exact Below.refl _ _ | (with_reducible refine Below.drew ?_) | (with_reducible refine below_drewN' ?_ _) | (with_reducible refine below_al ?_) | ((with_reducible refine below_set ?_ ?_); rotate_left; (simp; omega))))) (by assumption)).mono ?_; rintro e w2 ⟨rfl, hb2⟩
  have hz2 := hb2.size; (try simp at hz2); obtain ⟨hc2, hf2⟩ := bcell hb2; have hB2 := below_step (w := w) hb2 (by repeat (first | assumption | exact Below.refl _ _ | (with_reducible refine Below.drew ?_) | (with_reducible refine below_drewN' ?_ _) | (with_reducible refine below_al ?_) | ((with_reducible refine below_set ?_ ?_); rotate_left; (simp; omega))))
  have le_w_w2 : w.heap.size ≤ w2.heap.size := by omega
  try have lt_w_w2 : w.heap.size < w2.heap.size := by omega
  have le_w1_w2 : w1.heap.size ≤ w2.heap.size := by omega
  try have lt_w1_w2 : w1.heap.size < w2.heap.size := by omega
  go_wp2_with fail
  refine (number_yes _ _ _ _ (hL.below (by repeat (first | assumption | exact Below.refl _ _ | (with_reducible refine Below.drew ?_) | (with_reducible refine below_drewN' ?_ _) | (with_reducible refine below_al ?_) | ((with_reducible refine below_set ?_ ?_); rotate_left; (simp; omega))))) (by assumption)).mono ?_; rintro e w3 ⟨rfl, hb3⟩
  have hz3 := hb3.size; (try simp at hz3); obtain ⟨hc3, hf3⟩ := bcell hb3; have hB3 := below_step (w := w) hb3 (by repeat (first | assumption | exact Below.refl _ _ | (with_reducible refine Below.drew ?_) | (with_reducible refine below_drewN' ?_ _) | (with_reducible refine below_al ?_) | ((with_reducible refine below_set ?_ ?_); rotate_left; (simp; omega))))
  have le_w_w3 : w.heap.size ≤ w3.heap.size := by omega
  try have lt_w_w3 : w.heap.size < w3.heap.size := by omega
  have le_w1_w3 : w1.heap.size ≤ w3.heap.size := by omega
  try have lt_w1_w3 : w1.heap.size < w3.heap.size := by omega
  have le_w2_w3 : w2.heap.size ≤ w3.heap.size := by omega
  try have lt_w2_w3 : w2.heap.size < w3.heap.size := by omega
  go_wp2_with fail
  refine (number_yes _ _ _ _ (hL.below (by repeat (first | assumption | exact Below.refl _ _ | (with_reducible refine Below.drew ?_) | (with_reducible refine below_drewN' ?_ _) | (with_reducible refine below_al ?_) | ((with_reducible refine below_set ?_ ?_); rotate_left; (simp; omega))))) (by assumption)).mono ?_; rintro e w4 ⟨rfl, hb4⟩
  have hz4 := hb4.size; (try simp at hz4); obtain ⟨hc4, hf4⟩ := bcell hb4; have hB4 := below_step (w := w) hb4 (by repeat (first | assumption | exact Below.refl _ _ | (with_reducible refine Below.drew ?_) | (with_reducible refine below_drewN' ?_ _) | (with_reducible refine below_al ?_) | ((with_reducible refine below_set ?_ ?_); rotate_left; (simp; omega))))
  have le_w_w4 : w.heap.size ≤ w4.heap.size := by omega
  try have lt_w_w4 : w.heap.size < w4.heap.size := by omega
  have le_w1_w4 : w1.heap.size ≤ w4.heap.size := by omega
  try have lt_w1_w4 : w1.heap.size < w4.heap.size := by omega
  have le_w2_w4 : w2.heap.size ≤ w4.heap.size := by omega
  try have lt_w2_w4 : w2.heap.size < w4.heap.size := by omega
  have le_w3_w4 : w3.heap.size ≤ w4.heap.size := by omega
  try have lt_w3_w4 : w3.heap.size < w4.heap.size := by omega
  go_wp2_with fail
  refine (may_c _ _ _ _ (hL.below (by repeat (first | assumption | exact Below.refl _ _ | (with_reducible refine Below.drew ?_) | (with_reducible refine below_drewN' ?_ _) | (with_reducible refine below_al ?_) | ((with_reducible refine below_set ?_ ?_); rotate_left; (simp; omega)))))).mono ?_; rintro e w5 ⟨rfl, hb5⟩
  have hz5 := hb5.size; (try simp at hz5); obtain ⟨hc5, hf5⟩ := bcell hb5; have hB5 := below_step (w := w) hb5 (by repeat (first | assumption | exact Below.refl _ _ | (with_reducible refine Below.drew ?_) | (with_reducible refine below_drewN' ?_ _) | (with_reducible refine below_al ?_) | ((with_reducible refine below_set ?_ ?_); rotate_left; (simp; omega))))
  have le_w_w5 : w.heap.size ≤ w5.heap.size := by omega
  try have lt_w_w5 : w.heap.size < w5.heap.size := by omega
  have le_w1_w5 : w1.heap.size ≤ w5.heap.size := by omega
  try have lt_w1_w5 : w1.heap.size < w5.heap.size := by omega
  have le_w2_w5 : w2.heap.size ≤ w5.heap.size := by omega
  try have lt_w2_w5 : w2.heap.size < w5.heap.size := by omega
  have le_w3_w5 : w3.heap.size ≤ w5.heap.size := by omega
  try have lt_w3_w5 : w3.heap.size < w5.heap.size := by omega
  have le_w4_w5 : w4.heap.size ≤ w5.heap.size := by omega
  try have lt_w4_w5 : w4.heap.size < w5.heap.size := by omega
  go_wp2_with fail
  refine (number_yes _ _ _ _ (hL.below (by repeat (first | assumption | exact Below.refl _ _ | (with_reducible refine Below.drew ?_) | (with_reducible refine below_drewN' ?_ _) | (with_reducible refine below_al ?_) | ((with_reducible refine below_set ?_ ?_); rotate_left; (simp; omega))))) (by assumption)).mono ?_; rintro e w6 ⟨rfl, hb6⟩
  have hz6 := hb6.size; (try simp at hz6); obtain ⟨hc6, hf6⟩ := bcell hb6; have hB6 := below_step (w := w) hb6 (by repeat (first | assumption | exact Below.refl _ _ | (with_reducible refine Below.drew ?_) | (with_reducible refine below_drewN' ?_ _) | (with_reducible refine below_al ?_) | ((with_reducible refine below_set ?_ ?_); rotate_left; (simp; omega))))
  have le_w_w6 : w.heap.size ≤ w6.heap.size := by omega
  try have lt_w_w6 : w.heap.size < w6.heap.size := by omega
  have le_w1_w6 : w1.heap.size ≤ w6.heap.size := by omega
  try have lt_w1_w6 : w1.heap.size < w6.heap.size := by omega
  have le_w2_w6 : w2.heap.size ≤ w6.heap.size := by omega
  try have lt_w2_w6 : w2.heap.size < w6.heap.size := by omega
  have le_w3_w6 : w3.heap.size ≤ w6.heap.size := by omega
  try have lt_w3_w6 : w3.heap.size < w6.heap.size := by omega
  have le_w4_w6 : w4.heap.size ≤ w6.heap.size := by omega
  try have lt_w4_w6 : w4.heap.size < w6.heap.size := by omega
  have le_w5_w6 : w5.heap.size ≤ w6.heap.size := by omega
  try have lt_w5_w6 : w5.heap.size < w6.heap.size := by omega
  go_wp2_with fail
  go_ret
  exact ⟨rfl, by repeat (first | assumption | exact Below.refl _ _ | (with_reducible refine Below.drew ?_) | (with_reducible refine below_drewN' ?_ _) | (with_reducible refine below_al ?_) | ((with_reducible refine below_set ?_ ?_); rotate_left; (simp; omega)))⟩
set_option maxHeartbeats 1000000 in
theorem civilMonths_year (a b c p q k : Int) (a0 : 0 ≤ a) (a1 : a ≤ 65535) (b0 : 0 ≤ b) (b1 : b ≤ 255) (c0 : 0 ≤ c) (c1 : c ≤ 255) (hp : 1 + a % 9999 = p) (hq : 1 + b % 12 = q) (hk : 1 + c % Cal.len p q = k) (p1 : 1 ≤ p) (p2 : p ≤ 9999) (q1 : 1 ≤ q) (q2 : q ≤ 12) (k1 : 1 ≤ k) (k2 : k ≤ Cal.len p q) (hm : (q == 12) = true) (p3 : p ≤ 9998) (w : World) (hL : Laid w) : Calls Tryd.prog 13 #[.int .u16 a, .int .u8 b, .int .u8 c] w fun e w' => e = .returned (.bool true) ∧ Below w.heap.size w w' := by
  obtain ⟨l1, l2⟩ := Cal.len_bd p q q1 q2
  have g1 : Cal.mayB p q 1 = true := (Cal.mayB_iff _ _ _).2 ⟨p1, p2, by omega, by omega⟩
  have g2 : Cal.mayB p q k = true := (Cal.mayB_iff _ _ _).2 ⟨p1, p2, k1, k2⟩
  have g3 : Cal.mayB p q (Cal.len p q) = true := (Cal.mayB_iff _ _ _).2 ⟨p1, p2, by omega, by omega⟩
  have g4 : Cal.mayB p q (Cal.len p q + 1) = false := mayB_ff (by omega)
  have n2 : Cal.num p q k = Cal.num p q 1 + k - 1 := by unfold Cal.num; omega
  have n3 : Cal.num p q (Cal.len p q) = Cal.num p q 1 + Cal.len p q - 1 := by unfold Cal.num; omega
  obtain ⟨s1, s2⟩ := (Cal.day_mk g1).bd
  have g5 : Cal.mayB (p + 1) 1 1 = true := (Cal.mayB_iff _ _ _).2 ⟨by omega, by omega, by omega, by have := Cal.len_bd (p + 1) 1 (by omega) (by omega); omega⟩
  have n5 : Cal.num (p + 1) 1 1 = Cal.num p q 1 + Cal.len p q := by
    have e : q = 12 := by simpa using hm
    subst e
    have := Cal.cum_succ p 12 (by omega) (by omega); have := Cal.cum_end p; have := Cal.dby_succ p; have := Cal.cum_one (p + 1)
    simp only [Int.reduceAdd] at *
    unfold Cal.num; omega
  have p9 : (p == 9999) = false := beq_eq_false_iff_ne.2 (by omega)
  have hB : Below w.heap.size w w := Below.refl _ _
  go_enter Tryd.func13, Tryd.ntmps13
  go_wp2_with fail
  refine (shown04_c _ (hL.below (by repeat (first | assumption | exact Below.refl _ _ | (with_reducible refine Below.drew ?_) | (with_reducible refine below_drewN' ?_ _) | (with_reducible refine below_al ?_) | ((with_reducible refine below_set ?_ ?_); rotate_left; (simp; omega)))))).mono ?_; rintro e w1 ⟨rfl, hb1⟩
  have hz1 := hb1.size; (try simp at hz1); obtain ⟨hc1, hf1⟩ := bcell hb1; have hB1 := below_step (w := w) hb1 (by repeat (first | assumption | exact Below.refl _ _ | (with_reducible refine Below.drew ?_) | (with_reducible refine below_drewN' ?_ _) | (with_reducible refine below_al ?_) | ((with_reducible refine below_set ?_ ?_); rotate_left; (simp; omega))))
  have le_w_w1 : w.heap.size ≤ w1.heap.size := by omega
  try have lt_w_w1 : w.heap.size < w1.heap.size := by omega
  go_wp2_with fail
  refine (length_c _ _ _ (hL.below (by repeat (first | assumption | exact Below.refl _ _ | (with_reducible refine Below.drew ?_) | (with_reducible refine below_drewN' ?_ _) | (with_reducible refine below_al ?_) | ((with_reducible refine below_set ?_ ?_); rotate_left; (simp; omega)))))).mono ?_; rintro e w' ⟨rfl, rfl⟩
  go_wp2_with fail
  refine (number_yes _ _ _ _ (hL.below (by repeat (first | assumption | exact Below.refl _ _ | (with_reducible refine Below.drew ?_) | (with_reducible refine below_drewN' ?_ _) | (with_reducible refine below_al ?_) | ((with_reducible refine below_set ?_ ?_); rotate_left; (simp; omega))))) (by assumption)).mono ?_; rintro e w2 ⟨rfl, hb2⟩
  have hz2 := hb2.size; (try simp at hz2); obtain ⟨hc2, hf2⟩ := bcell hb2; have hB2 := below_step (w := w) hb2 (by repeat (first | assumption | exact Below.refl _ _ | (with_reducible refine Below.drew ?_) | (with_reducible refine below_drewN' ?_ _) | (with_reducible refine below_al ?_) | ((with_reducible refine below_set ?_ ?_); rotate_left; (simp; omega))))
  have le_w_w2 : w.heap.size ≤ w2.heap.size := by omega
  try have lt_w_w2 : w.heap.size < w2.heap.size := by omega
  have le_w1_w2 : w1.heap.size ≤ w2.heap.size := by omega
  try have lt_w1_w2 : w1.heap.size < w2.heap.size := by omega
  go_wp2_with fail
  refine (number_yes _ _ _ _ (hL.below (by repeat (first | assumption | exact Below.refl _ _ | (with_reducible refine Below.drew ?_) | (with_reducible refine below_drewN' ?_ _) | (with_reducible refine below_al ?_) | ((with_reducible refine below_set ?_ ?_); rotate_left; (simp; omega))))) (by assumption)).mono ?_; rintro e w3 ⟨rfl, hb3⟩
  have hz3 := hb3.size; (try simp at hz3); obtain ⟨hc3, hf3⟩ := bcell hb3; have hB3 := below_step (w := w) hb3 (by repeat (first | assumption | exact Below.refl _ _ | (with_reducible refine Below.drew ?_) | (with_reducible refine below_drewN' ?_ _) | (with_reducible refine below_al ?_) | ((with_reducible refine below_set ?_ ?_); rotate_left; (simp; omega))))
  have le_w_w3 : w.heap.size ≤ w3.heap.size := by omega
  try have lt_w_w3 : w.heap.size < w3.heap.size := by omega
  have le_w1_w3 : w1.heap.size ≤ w3.heap.size := by omega
  try have lt_w1_w3 : w1.heap.size < w3.heap.size := by omega
  have le_w2_w3 : w2.heap.size ≤ w3.heap.size := by omega
  try have lt_w2_w3 : w2.heap.size < w3.heap.size := by omega
  go_wp2_with fail
  refine (number_yes _ _ _ _ (hL.below (by repeat (first | assumption | exact Below.refl _ _ | (with_reducible refine Below.drew ?_) | (with_reducible refine below_drewN' ?_ _) | (with_reducible refine below_al ?_) | ((with_reducible refine below_set ?_ ?_); rotate_left; (simp; omega))))) (by assumption)).mono ?_; rintro e w4 ⟨rfl, hb4⟩
  have hz4 := hb4.size; (try simp at hz4); obtain ⟨hc4, hf4⟩ := bcell hb4; have hB4 := below_step (w := w) hb4 (by repeat (first | assumption | exact Below.refl _ _ | (with_reducible refine Below.drew ?_) | (with_reducible refine below_drewN' ?_ _) | (with_reducible refine below_al ?_) | ((with_reducible refine below_set ?_ ?_); rotate_left; (simp; omega))))
  have le_w_w4 : w.heap.size ≤ w4.heap.size := by omega
  try have lt_w_w4 : w.heap.size < w4.heap.size := by omega
  have le_w1_w4 : w1.heap.size ≤ w4.heap.size := by omega
  try have lt_w1_w4 : w1.heap.size < w4.heap.size := by omega
  have le_w2_w4 : w2.heap.size ≤ w4.heap.size := by omega
  try have lt_w2_w4 : w2.heap.size < w4.heap.size := by omega
  have le_w3_w4 : w3.heap.size ≤ w4.heap.size := by omega
  try have lt_w3_w4 : w3.heap.size < w4.heap.size := by omega
  go_wp2_with fail
  refine (may_c _ _ _ _ (hL.below (by repeat (first | assumption | exact Below.refl _ _ | (with_reducible refine Below.drew ?_) | (with_reducible refine below_drewN' ?_ _) | (with_reducible refine below_al ?_) | ((with_reducible refine below_set ?_ ?_); rotate_left; (simp; omega)))))).mono ?_; rintro e w5 ⟨rfl, hb5⟩
  have hz5 := hb5.size; (try simp at hz5); obtain ⟨hc5, hf5⟩ := bcell hb5; have hB5 := below_step (w := w) hb5 (by repeat (first | assumption | exact Below.refl _ _ | (with_reducible refine Below.drew ?_) | (with_reducible refine below_drewN' ?_ _) | (with_reducible refine below_al ?_) | ((with_reducible refine below_set ?_ ?_); rotate_left; (simp; omega))))
  have le_w_w5 : w.heap.size ≤ w5.heap.size := by omega
  try have lt_w_w5 : w.heap.size < w5.heap.size := by omega
  have le_w1_w5 : w1.heap.size ≤ w5.heap.size := by omega
  try have lt_w1_w5 : w1.heap.size < w5.heap.size := by omega
  have le_w2_w5 : w2.heap.size ≤ w5.heap.size := by omega
  try have lt_w2_w5 : w2.heap.size < w5.heap.size := by omega
  have le_w3_w5 : w3.heap.size ≤ w5.heap.size := by omega
  try have lt_w3_w5 : w3.heap.size < w5.heap.size := by omega
  have le_w4_w5 : w4.heap.size ≤ w5.heap.size := by omega
  try have lt_w4_w5 : w4.heap.size < w5.heap.size := by omega
  go_wp2_with fail
  refine (number_yes _ _ _ _ (hL.below (by repeat (first | assumption | exact Below.refl _ _ | (with_reducible refine Below.drew ?_) | (with_reducible refine below_drewN' ?_ _) | (with_reducible refine below_al ?_) | ((with_reducible refine below_set ?_ ?_); rotate_left; (simp; omega))))) (by assumption)).mono ?_; rintro e w6 ⟨rfl, hb6⟩
  have hz6 := hb6.size; (try simp at hz6); obtain ⟨hc6, hf6⟩ := bcell hb6; have hB6 := below_step (w := w) hb6 (by repeat (first | assumption | exact Below.refl _ _ | (with_reducible refine Below.drew ?_) | (with_reducible refine below_drewN' ?_ _) | (with_reducible refine below_al ?_) | ((with_reducible refine below_set ?_ ?_); rotate_left; (simp; omega))))
  have le_w_w6 : w.heap.size ≤ w6.heap.size := by omega
  try have lt_w_w6 : w.heap.size < w6.heap.size := by omega
  have le_w1_w6 : w1.heap.size ≤ w6.heap.size := by omega
  try have lt_w1_w6 : w1.heap.size < w6.heap.size := by omega
  have le_w2_w6 : w2.heap.size ≤ w6.heap.size := by omega
  try have lt_w2_w6 : w2.heap.size < w6.heap.size := by omega
  have le_w3_w6 : w3.heap.size ≤ w6.heap.size := by omega
  try have lt_w3_w6 : w3.heap.size < w6.heap.size := by omega
  have le_w4_w6 : w4.heap.size ≤ w6.heap.size := by omega
  try have lt_w4_w6 : w4.heap.size < w6.heap.size := by omega
  have le_w5_w6 : w5.heap.size ≤ w6.heap.size := by omega
  try have lt_w5_w6 : w5.heap.size < w6.heap.size := by omega
  go_wp2_with fail
  go_ret
  exact ⟨rfl, by repeat (first | assumption | exact Below.refl _ _ | (with_reducible refine Below.drew ?_) | (with_reducible refine below_drewN' ?_ _) | (with_reducible refine below_al ?_) | ((with_reducible refine below_set ?_ ?_); rotate_left; (simp; omega)))⟩
set_option maxHeartbeats 1000000 in
theorem civilMonths_end (a b c p q k : Int) (a0 : 0 ≤ a) (a1 : a ≤ 65535) (b0 : 0 ≤ b) (b1 : b ≤ 255) (c0 : 0 ≤ c) (c1 : c ≤ 255) (hp : 1 + a % 9999 = p) (hq : 1 + b % 12 = q) (hk : 1 + c % Cal.len p q = k) (p1 : 1 ≤ p) (p2 : p ≤ 9999) (q1 : 1 ≤ q) (q2 : q ≤ 12) (k1 : 1 ≤ k) (k2 : k ≤ Cal.len p q) (hm : (q == 12) = true) (p9 : (p == 9999) = true) (w : World) (hL : Laid w) : Calls Tryd.prog 13 #[.int .u16 a, .int .u8 b, .int .u8 c] w fun e w' => e = .returned (.bool true) ∧ Below w.heap.size w w' := by
  obtain ⟨l1, l2⟩ := Cal.len_bd p q q1 q2
  have g1 : Cal.mayB p q 1 = true := (Cal.mayB_iff _ _ _).2 ⟨p1, p2, by omega, by omega⟩
  have g2 : Cal.mayB p q k = true := (Cal.mayB_iff _ _ _).2 ⟨p1, p2, k1, k2⟩
  have g3 : Cal.mayB p q (Cal.len p q) = true := (Cal.mayB_iff _ _ _).2 ⟨p1, p2, by omega, by omega⟩
  have g4 : Cal.mayB p q (Cal.len p q + 1) = false := mayB_ff (by omega)
  have n2 : Cal.num p q k = Cal.num p q 1 + k - 1 := by unfold Cal.num; omega
  have n3 : Cal.num p q (Cal.len p q) = Cal.num p q 1 + Cal.len p q - 1 := by unfold Cal.num; omega
  obtain ⟨s1, s2⟩ := (Cal.day_mk g1).bd
  have g5 : Cal.mayB (p + 1) 1 1 = false := mayB_ff (fun c => by have e : p = 9999 := (by simpa using p9); omega)
  have hB : Below w.heap.size w w := Below.refl _ _
  go_enter Tryd.func13, Tryd.ntmps13
  go_wp2_with fail
  refine (shown04_c _ (hL.below (by repeat (first | assumption | exact Below.refl _ _ | (with_reducible refine Below.drew ?_) | (with_reducible refine below_drewN' ?_ _) | (with_reducible refine below_al ?_) | ((with_reducible refine below_set ?_ ?_); rotate_left; (simp; omega)))))).mono ?_; rintro e w1 ⟨rfl, hb1⟩
  have hz1 := hb1.size; (try simp at hz1); obtain ⟨hc1, hf1⟩ := bcell hb1; have hB1 := below_step (w := w) hb1 (by repeat (first | assumption | exact Below.refl _ _ | (with_reducible refine Below.drew ?_) | (with_reducible refine below_drewN' ?_ _) | (with_reducible refine below_al ?_) | ((with_reducible refine below_set ?_ ?_); rotate_left; (simp; omega))))
  have le_w_w1 : w.heap.size ≤ w1.heap.size := by omega
  try have lt_w_w1 : w.heap.size < w1.heap.size := by omega
  go_wp2_with fail
  refine (length_c _ _ _ (hL.below (by repeat (first | assumption | exact Below.refl _ _ | (with_reducible refine Below.drew ?_) | (with_reducible refine below_drewN' ?_ _) | (with_reducible refine below_al ?_) | ((with_reducible refine below_set ?_ ?_); rotate_left; (simp; omega)))))).mono ?_; rintro e w' ⟨rfl, rfl⟩
  go_wp2_with fail
  refine (number_yes _ _ _ _ (hL.below (by repeat (first | assumption | exact Below.refl _ _ | (with_reducible refine Below.drew ?_) | (with_reducible refine below_drewN' ?_ _) | (with_reducible refine below_al ?_) | ((with_reducible refine below_set ?_ ?_); rotate_left; (simp; omega))))) (by assumption)).mono ?_; rintro e w2 ⟨rfl, hb2⟩
  have hz2 := hb2.size; (try simp at hz2); obtain ⟨hc2, hf2⟩ := bcell hb2; have hB2 := below_step (w := w) hb2 (by repeat (first | assumption | exact Below.refl _ _ | (with_reducible refine Below.drew ?_) | (with_reducible refine below_drewN' ?_ _) | (with_reducible refine below_al ?_) | ((with_reducible refine below_set ?_ ?_); rotate_left; (simp; omega))))
  have le_w_w2 : w.heap.size ≤ w2.heap.size := by omega
  try have lt_w_w2 : w.heap.size < w2.heap.size := by omega
  have le_w1_w2 : w1.heap.size ≤ w2.heap.size := by omega
  try have lt_w1_w2 : w1.heap.size < w2.heap.size := by omega
  go_wp2_with fail
  refine (number_yes _ _ _ _ (hL.below (by repeat (first | assumption | exact Below.refl _ _ | (with_reducible refine Below.drew ?_) | (with_reducible refine below_drewN' ?_ _) | (with_reducible refine below_al ?_) | ((with_reducible refine below_set ?_ ?_); rotate_left; (simp; omega))))) (by assumption)).mono ?_; rintro e w3 ⟨rfl, hb3⟩
  have hz3 := hb3.size; (try simp at hz3); obtain ⟨hc3, hf3⟩ := bcell hb3; have hB3 := below_step (w := w) hb3 (by repeat (first | assumption | exact Below.refl _ _ | (with_reducible refine Below.drew ?_) | (with_reducible refine below_drewN' ?_ _) | (with_reducible refine below_al ?_) | ((with_reducible refine below_set ?_ ?_); rotate_left; (simp; omega))))
  have le_w_w3 : w.heap.size ≤ w3.heap.size := by omega
  try have lt_w_w3 : w.heap.size < w3.heap.size := by omega
  have le_w1_w3 : w1.heap.size ≤ w3.heap.size := by omega
  try have lt_w1_w3 : w1.heap.size < w3.heap.size := by omega
  have le_w2_w3 : w2.heap.size ≤ w3.heap.size := by omega
  try have lt_w2_w3 : w2.heap.size < w3.heap.size := by omega
  go_wp2_with fail
  refine (number_yes _ _ _ _ (hL.below (by repeat (first | assumption | exact Below.refl _ _ | (with_reducible refine Below.drew ?_) | (with_reducible refine below_drewN' ?_ _) | (with_reducible refine below_al ?_) | ((with_reducible refine below_set ?_ ?_); rotate_left; (simp; omega))))) (by assumption)).mono ?_; rintro e w4 ⟨rfl, hb4⟩
  have hz4 := hb4.size; (try simp at hz4); obtain ⟨hc4, hf4⟩ := bcell hb4; have hB4 := below_step (w := w) hb4 (by repeat (first | assumption | exact Below.refl _ _ | (with_reducible refine Below.drew ?_) | (with_reducible refine below_drewN' ?_ _) | (with_reducible refine below_al ?_) | ((with_reducible refine below_set ?_ ?_); rotate_left; (simp; omega))))
  have le_w_w4 : w.heap.size ≤ w4.heap.size := by omega
  try have lt_w_w4 : w.heap.size < w4.heap.size := by omega
  have le_w1_w4 : w1.heap.size ≤ w4.heap.size := by omega
  try have lt_w1_w4 : w1.heap.size < w4.heap.size := by omega
  have le_w2_w4 : w2.heap.size ≤ w4.heap.size := by omega
  try have lt_w2_w4 : w2.heap.size < w4.heap.size := by omega
  have le_w3_w4 : w3.heap.size ≤ w4.heap.size := by omega
  try have lt_w3_w4 : w3.heap.size < w4.heap.size := by omega
  go_wp2_with fail
  refine (may_c _ _ _ _ (hL.below (by repeat (first | assumption | exact Below.refl _ _ | (with_reducible refine Below.drew ?_) | (with_reducible refine below_drewN' ?_ _) | (with_reducible refine below_al ?_) | ((with_reducible refine below_set ?_ ?_); rotate_left; (simp; omega)))))).mono ?_; rintro e w5 ⟨rfl, hb5⟩
  have hz5 := hb5.size; (try simp at hz5); obtain ⟨hc5, hf5⟩ := bcell hb5; have hB5 := below_step (w := w) hb5 (by repeat (first | assumption | exact Below.refl _ _ | (with_reducible refine Below.drew ?_) | (with_reducible refine below_drewN' ?_ _) | (with_reducible refine below_al ?_) | ((with_reducible refine below_set ?_ ?_); rotate_left; (simp; omega))))
  have le_w_w5 : w.heap.size ≤ w5.heap.size := by omega
  try have lt_w_w5 : w.heap.size < w5.heap.size := by omega
  have le_w1_w5 : w1.heap.size ≤ w5.heap.size := by omega
  try have lt_w1_w5 : w1.heap.size < w5.heap.size := by omega
  have le_w2_w5 : w2.heap.size ≤ w5.heap.size := by omega
  try have lt_w2_w5 : w2.heap.size < w5.heap.size := by omega
  have le_w3_w5 : w3.heap.size ≤ w5.heap.size := by omega
  try have lt_w3_w5 : w3.heap.size < w5.heap.size := by omega
  have le_w4_w5 : w4.heap.size ≤ w5.heap.size := by omega
  try have lt_w4_w5 : w4.heap.size < w5.heap.size := by omega
  go_wp2_with fail
  refine (number_no _ _ _ _ (hL.below (by repeat (first | assumption | exact Below.refl _ _ | (with_reducible refine Below.drew ?_) | (with_reducible refine below_drewN' ?_ _) | (with_reducible refine below_al ?_) | ((with_reducible refine below_set ?_ ?_); rotate_left; (simp; omega))))) (by assumption)).mono ?_; rintro e w6 ⟨rfl, hb6⟩
  have hz6 := hb6.size; (try simp at hz6); obtain ⟨hc6, hf6⟩ := bcell hb6; have hB6 := below_step (w := w) hb6 (by repeat (first | assumption | exact Below.refl _ _ | (with_reducible refine Below.drew ?_) | (with_reducible refine below_drewN' ?_ _) | (with_reducible refine below_al ?_) | ((with_reducible refine below_set ?_ ?_); rotate_left; (simp; omega))))
  have le_w_w6 : w.heap.size ≤ w6.heap.size := by omega
  try have lt_w_w6 : w.heap.size < w6.heap.size := by omega
  have le_w1_w6 : w1.heap.size ≤ w6.heap.size := by omega
  try have lt_w1_w6 : w1.heap.size < w6.heap.size := by omega
  have le_w2_w6 : w2.heap.size ≤ w6.heap.size := by omega
  try have lt_w2_w6 : w2.heap.size < w6.heap.size := by omega
  have le_w3_w6 : w3.heap.size ≤ w6.heap.size := by omega
  try have lt_w3_w6 : w3.heap.size < w6.heap.size := by omega
  have le_w4_w6 : w4.heap.size ≤ w6.heap.size := by omega
  try have lt_w4_w6 : w4.heap.size < w6.heap.size := by omega
  have le_w5_w6 : w5.heap.size ≤ w6.heap.size := by omega
  try have lt_w5_w6 : w5.heap.size < w6.heap.size := by omega
  go_wp2_with fail
  go_ret
  exact ⟨rfl, by repeat (first | assumption | exact Below.refl _ _ | (with_reducible refine Below.drew ?_) | (with_reducible refine below_drewN' ?_ _) | (with_reducible refine below_al ?_) | ((with_reducible refine below_set ?_ ?_); rotate_left; (simp; omega)))⟩
theorem civilMonths_walk (a b c : Int) (a0 : 0 ≤ a) (a1 : a ≤ 65535) (b0 : 0 ≤ b) (b1 : b ≤ 255) (c0 : 0 ≤ c) (c1 : c ≤ 255) (w : World) (hL : Laid w) : Calls Tryd.prog 13 #[.int .u16 a, .int .u8 b, .int .u8 c] w fun e w' => e = .returned (.bool true) ∧ Below w.heap.size w w' := by
  obtain ⟨p, hp⟩ : ∃ p, 1 + a % 9999 = p := ⟨_, rfl⟩
  obtain ⟨q, hq⟩ : ∃ q, 1 + b % 12 = q := ⟨_, rfl⟩
  obtain ⟨k, hk⟩ : ∃ k, 1 + c % Cal.len p q = k := ⟨_, rfl⟩
  have p1 : 1 ≤ p := by omega
  have p2 : p ≤ 9999 := by omega
  have q1 : 1 ≤ q := by omega
  have q2 : q ≤ 12 := by omega
  obtain ⟨l1, l2⟩ := Cal.len_bd p q q1 q2
  have k1 : 1 ≤ k := by have := Int.emod_nonneg c (b := Cal.len p q) (by omega); omega
  have k2 : k ≤ Cal.len p q := by have := Int.emod_lt_of_pos c (b := Cal.len p q) (by omega); omega
  cases hm : q == 12
  · have q3 : q ≤ 11 := by
      have : ¬ q = 12 := by simpa using hm
      omega
    cases h9 : p == 9999
    · exact civilMonths_mid a b c p q k a0 a1 b0 b1 c0 c1 hp hq hk p1 p2 q1 q2 k1 k2 hm q3 h9 w hL
    · exact civilMonths_mid9 a b c p q k a0 a1 b0 b1 c0 c1 hp hq hk p1 p2 q1 q2 k1 k2 hm q3 h9 w hL
  · cases h9 : p == 9999
    · exact civilMonths_year a b c p q k a0 a1 b0 b1 c0 c1 hp hq hk p1 p2 q1 q2 k1 k2 hm (by have : ¬ p = 9999 := by simpa using h9
                                                                                             omega) w hL
    · exact civilMonths_end a b c p q k a0 a1 b0 b1 c0 c1 hp hq hk p1 p2 q1 q2 k1 k2 hm h9 w hL
end Go.Proofs.YtfcapdifenbcnaaDoor
