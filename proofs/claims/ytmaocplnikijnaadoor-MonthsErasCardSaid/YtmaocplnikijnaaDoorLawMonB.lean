/- The walks of MonthsBack, MonthsRise and MonthsEras: all return true for every input. Conditions: the table of months' lengths lies as the program's text lays it. -/
import Derived.Test.YtmaocplnikijnaaDoorLawMon
import Derived.Test.YtmaocplnikijnaaDoorMonR
namespace Go.Proofs.YtmaocplnikijnaaDoor
open Go.RowKit
set_option linter.unusedVariables false
theorem tmod3000 (j : Int) (h1 : -32768 ≤ j) (h2 : j ≤ 32767) : -2999 ≤ j.tmod 3000 ∧ j.tmod 3000 ≤ 2999 := by
  have h := Int.tmod_eq_emod (a := j) (b := 3000)
  rw [h]; split <;> omega
theorem ok_no {n k : Int} (h : Mon.okB n k = false) : Mon.E n k = 3 := (Mon.V_no (eom := false) h).2
theorem ok_yes {n k : Int} (h : Mon.okB n k = true) : Mon.E n k = 0 := (Mon.V_yes (eom := false) h).2
set_option maxHeartbeats 1000000 in
theorem monthsBack_out (n j k p q : Int) (j1 : -32768 ≤ j) (j2 : j ≤ 32767) (k1 : -32768 ≤ k) (k2 : k ≤ 32767) (hp : j.tmod 3000 = p) (hq : k.tmod 3000 = q) (p1 : -2999 ≤ p) (p2 : p ≤ 2999) (q1 : -2999 ≤ q) (q2 : q ≤ 2999) (h : Hid (n < 1 ∨ 3652059 < n)) (w : World) (hL : Laid w) : Calls Tryd.prog 6 #[.int .i64 n, .int .i16 j, .int .i16 k] w fun e w' => e = .returned (.bool true) ∧ Below w.heap.size w w' := by
  have od := dayB_out h.out
  have hB : Below w.heap.size w w := Below.refl _ _
  go_enter Tryd.func6, Tryd.ntmps6
  go_wp2_with fail
  refine (shown05_c _ (hL.below (by repeat (first | assumption | exact Below.refl _ _ | (with_reducible refine Below.drew ?_) | (with_reducible refine below_drewN' ?_ _) | (with_reducible refine below_al ?_) | ((with_reducible refine below_set ?_ ?_); rotate_left; focus (first | (simp; done) | (simp; omega))))))).mono ?_; rintro e w1 ⟨rfl, hb1⟩
  have hz1 := hb1.size; (try simp at hz1); obtain ⟨hc1, hf1⟩ := bcell hb1; have hB1 := below_step (w := w) hb1 (by repeat (first | assumption | exact Below.refl _ _ | (with_reducible refine Below.drew ?_) | (with_reducible refine below_drewN' ?_ _) | (with_reducible refine below_al ?_) | ((with_reducible refine below_set ?_ ?_); rotate_left; focus (first | (simp; done) | (simp; omega)))))
  have le_w_w1 : w.heap.size ≤ w1.heap.size := by omega
  try have lt_w_w1 : w.heap.size < w1.heap.size := by omega
  go_wp2_with fail
  refine (rday_c _ _).mono ?_; rintro e w' ⟨rfl, rfl⟩
  go_wp2_with fail
  go_ret
  exact ⟨rfl, by repeat (first | assumption | exact Below.refl _ _ | (with_reducible refine Below.drew ?_) | (with_reducible refine below_drewN' ?_ _) | (with_reducible refine below_al ?_) | ((with_reducible refine below_set ?_ ?_); rotate_left; focus (first | (simp; done) | (simp; omega))))⟩
set_option maxHeartbeats 1000000 in
theorem monthsBack_no (n j k p q : Int) (j1 : -32768 ≤ j) (j2 : j ≤ 32767) (k1 : -32768 ≤ k) (k2 : k ≤ 32767) (hp : j.tmod 3000 = p) (hq : k.tmod 3000 = q) (p1 : -2999 ≤ p) (p2 : p ≤ 2999) (q1 : -2999 ≤ q) (q2 : q ≤ 2999) (h1 : 1 ≤ n) (h2 : n ≤ 3652059) (hk : Mon.okB n p = false) (w : World) (hL : Laid w) : Calls Tryd.prog 6 #[.int .i64 n, .int .i16 j, .int .i16 k] w fun e w' => e = .returned (.bool true) ∧ Below w.heap.size w w' := by
  obtain ⟨o1, o2, o3, o4⟩ := of_in h1 h2
  have od := dayB_in h1 h2
  have e0 := ok_no hk
  have hB : Below w.heap.size w w := Below.refl _ _
  go_enter Tryd.func6, Tryd.ntmps6
  go_wp2_with fail
  refine (shown05_c _ (hL.below (by repeat (first | assumption | exact Below.refl _ _ | (with_reducible refine Below.drew ?_) | (with_reducible refine below_drewN' ?_ _) | (with_reducible refine below_al ?_) | ((with_reducible refine below_set ?_ ?_); rotate_left; focus (first | (simp; done) | (simp; omega))))))).mono ?_; rintro e w1 ⟨rfl, hb1⟩
  have hz1 := hb1.size; (try simp at hz1); obtain ⟨hc1, hf1⟩ := bcell hb1; have hB1 := below_step (w := w) hb1 (by repeat (first | assumption | exact Below.refl _ _ | (with_reducible refine Below.drew ?_) | (with_reducible refine below_drewN' ?_ _) | (with_reducible refine below_al ?_) | ((with_reducible refine below_set ?_ ?_); rotate_left; focus (first | (simp; done) | (simp; omega)))))
  have le_w_w1 : w.heap.size ≤ w1.heap.size := by omega
  try have lt_w_w1 : w.heap.size < w1.heap.size := by omega
  go_wp2_with fail
  refine (rday_c _ _).mono ?_; rintro e w' ⟨rfl, rfl⟩
  go_wp2_with fail
  refine (shift_c _ _ _ (hL.below (by repeat (first | assumption | exact Below.refl _ _ | (with_reducible refine Below.drew ?_) | (with_reducible refine below_drewN' ?_ _) | (with_reducible refine below_al ?_) | ((with_reducible refine below_set ?_ ?_); rotate_left; focus (first | (simp; done) | (simp; omega))))))).mono ?_; rintro e w2 ⟨rfl, hb2⟩
  have hz2 := hb2.size; (try simp at hz2); obtain ⟨hc2, hf2⟩ := bcell hb2; have hB2 := below_step (w := w) hb2 (by repeat (first | assumption | exact Below.refl _ _ | (with_reducible refine Below.drew ?_) | (with_reducible refine below_drewN' ?_ _) | (with_reducible refine below_al ?_) | ((with_reducible refine below_set ?_ ?_); rotate_left; focus (first | (simp; done) | (simp; omega)))))
  have le_w_w2 : w.heap.size ≤ w2.heap.size := by omega
  try have lt_w_w2 : w.heap.size < w2.heap.size := by omega
  have le_w1_w2 : w1.heap.size ≤ w2.heap.size := by omega
  try have lt_w1_w2 : w1.heap.size < w2.heap.size := by omega
  go_wp2_with fail
  go_ret
  exact ⟨rfl, by repeat (first | assumption | exact Below.refl _ _ | (with_reducible refine Below.drew ?_) | (with_reducible refine below_drewN' ?_ _) | (with_reducible refine below_al ?_) | ((with_reducible refine below_set ?_ ?_); rotate_left; focus (first | (simp; done) | (simp; omega))))⟩
set_option maxHeartbeats 1000000 in
theorem monthsBack_same (n j k p q : Int) (j1 : -32768 ≤ j) (j2 : j ≤ 32767) (k1 : -32768 ≤ k) (k2 : k ≤ 32767) (hp : j.tmod 3000 = p) (hq : k.tmod 3000 = q) (p1 : -2999 ≤ p) (p2 : p ≤ 2999) (q1 : -2999 ≤ q) (q2 : q ≤ 2999) (h1 : 1 ≤ n) (h2 : n ≤ 3652059) (hk : Mon.okB n p = true) (hd : (Mon.D n p false == Cal.dOf n) = true) (w : World) (hL : Laid w) : Calls Tryd.prog 6 #[.int .i64 n, .int .i16 j, .int .i16 k] w fun e w' => e = .returned (.bool true) ∧ Below w.heap.size w w' := by
  obtain ⟨o1, o2, o3, o4⟩ := of_in h1 h2
  have od := dayB_in h1 h2
  have e0 := ok_yes hk
  have hb := Mon.back_ok hk
  have e1 := ok_yes hb
  obtain ⟨x1, x2⟩ := Mon.V_bd (eom := false) hk
  obtain ⟨y1, y2⟩ := Mon.V_bd (eom := false) hb
  obtain ⟨a1, a2, a3⟩ := Mon.of_V (eom := false) hk
  obtain ⟨b1, b2, b3⟩ := Mon.of_V (eom := false) hb
  rw [(Mon.back_YN hk).1] at b1; rw [(Mon.back_YN hk).2] at b2
  obtain ⟨r1, r2, r3, r4⟩ := of_in x1 x2
  rw [a3] at r3
  obtain ⟨s1, s2, s3, s4⟩ := of_in y1 y2
  rw [b1] at s1; rw [b2] at s2
  have be := Mon.back_eq hk
  rw [hd] at be
  have te := Mon.two_E hk q
  clear a1 a2 a3 b1 b2 b3 hb
  have tv := Mon.two_V hk q (by simpa using hd)
  have hd' : (Mon.D n p false != Cal.dOf n) = false := by simpa using hd
  have hB : Below w.heap.size w w := Below.refl _ _
  go_enter Tryd.func6, Tryd.ntmps6
  go_wp2_with fail
  refine (shown05_c _ (hL.below (by repeat (first | assumption | exact Below.refl _ _ | (with_reducible refine Below.drew ?_) | (with_reducible refine below_drewN' ?_ _) | (with_reducible refine below_al ?_) | ((with_reducible refine below_set ?_ ?_); rotate_left; focus (first | (simp; done) | (simp; omega))))))).mono ?_; rintro e w1 ⟨rfl, hb1⟩
  have hz1 := hb1.size; (try simp at hz1); obtain ⟨hc1, hf1⟩ := bcell hb1; have hB1 := below_step (w := w) hb1 (by repeat (first | assumption | exact Below.refl _ _ | (with_reducible refine Below.drew ?_) | (with_reducible refine below_drewN' ?_ _) | (with_reducible refine below_al ?_) | ((with_reducible refine below_set ?_ ?_); rotate_left; focus (first | (simp; done) | (simp; omega)))))
  have le_w_w1 : w.heap.size ≤ w1.heap.size := by omega
  try have lt_w_w1 : w.heap.size < w1.heap.size := by omega
  go_wp2_with fail
  refine (rday_c _ _).mono ?_; rintro e w' ⟨rfl, rfl⟩
  go_wp2_with fail
  refine (shift_c _ _ _ (hL.below (by repeat (first | assumption | exact Below.refl _ _ | (with_reducible refine Below.drew ?_) | (with_reducible refine below_drewN' ?_ _) | (with_reducible refine below_al ?_) | ((with_reducible refine below_set ?_ ?_); rotate_left; focus (first | (simp; done) | (simp; omega))))))).mono ?_; rintro e w2 ⟨rfl, hb2⟩
  have hz2 := hb2.size; (try simp at hz2); obtain ⟨hc2, hf2⟩ := bcell hb2; have hB2 := below_step (w := w) hb2 (by repeat (first | assumption | exact Below.refl _ _ | (with_reducible refine Below.drew ?_) | (with_reducible refine below_drewN' ?_ _) | (with_reducible refine below_al ?_) | ((with_reducible refine below_set ?_ ?_); rotate_left; focus (first | (simp; done) | (simp; omega)))))
  have le_w_w2 : w.heap.size ≤ w2.heap.size := by omega
  try have lt_w_w2 : w.heap.size < w2.heap.size := by omega
  have le_w1_w2 : w1.heap.size ≤ w2.heap.size := by omega
  try have lt_w1_w2 : w1.heap.size < w2.heap.size := by omega
  go_wp2_with fail
  refine (shift_c _ _ _ (hL.below (by repeat (first | assumption | exact Below.refl _ _ | (with_reducible refine Below.drew ?_) | (with_reducible refine below_drewN' ?_ _) | (with_reducible refine below_al ?_) | ((with_reducible refine below_set ?_ ?_); rotate_left; focus (first | (simp; done) | (simp; omega))))))).mono ?_; rintro e w3 ⟨rfl, hb3⟩
  have hz3 := hb3.size; (try simp at hz3); obtain ⟨hc3, hf3⟩ := bcell hb3; have hB3 := below_step (w := w) hb3 (by repeat (first | assumption | exact Below.refl _ _ | (with_reducible refine Below.drew ?_) | (with_reducible refine below_drewN' ?_ _) | (with_reducible refine below_al ?_) | ((with_reducible refine below_set ?_ ?_); rotate_left; focus (first | (simp; done) | (simp; omega)))))
  have le_w_w3 : w.heap.size ≤ w3.heap.size := by omega
  try have lt_w_w3 : w.heap.size < w3.heap.size := by omega
  have le_w1_w3 : w1.heap.size ≤ w3.heap.size := by omega
  try have lt_w1_w3 : w1.heap.size < w3.heap.size := by omega
  have le_w2_w3 : w2.heap.size ≤ w3.heap.size := by omega
  try have lt_w2_w3 : w2.heap.size < w3.heap.size := by omega
  go_wp2_with fail
  refine (rof_c _ _).mono ?_; rintro e w4 ⟨rfl, hb4⟩
  have hz4 := hb4.size; (try simp at hz4); obtain ⟨hc4, hf4⟩ := bcell hb4; have hB4 := below_step (w := w) hb4 (by repeat (first | assumption | exact Below.refl _ _ | (with_reducible refine Below.drew ?_) | (with_reducible refine below_drewN' ?_ _) | (with_reducible refine below_al ?_) | ((with_reducible refine below_set ?_ ?_); rotate_left; focus (first | (simp; done) | (simp; omega)))))
  have le_w_w4 : w.heap.size ≤ w4.heap.size := by omega
  try have lt_w_w4 : w.heap.size < w4.heap.size := by omega
  have le_w1_w4 : w1.heap.size ≤ w4.heap.size := by omega
  try have lt_w1_w4 : w1.heap.size < w4.heap.size := by omega
  have le_w2_w4 : w2.heap.size ≤ w4.heap.size := by omega
  try have lt_w2_w4 : w2.heap.size < w4.heap.size := by omega
  have le_w3_w4 : w3.heap.size ≤ w4.heap.size := by omega
  try have lt_w3_w4 : w3.heap.size < w4.heap.size := by omega
  go_wp2_with fail
  refine (rof_c _ _).mono ?_; rintro e w5 ⟨rfl, hb5⟩
  have hz5 := hb5.size; (try simp at hz5); obtain ⟨hc5, hf5⟩ := bcell hb5; have hB5 := below_step (w := w) hb5 (by repeat (first | assumption | exact Below.refl _ _ | (with_reducible refine Below.drew ?_) | (with_reducible refine below_drewN' ?_ _) | (with_reducible refine below_al ?_) | ((with_reducible refine below_set ?_ ?_); rotate_left; focus (first | (simp; done) | (simp; omega)))))
  have le_w_w5 : w.heap.size ≤ w5.heap.size := by omega
  try have lt_w_w5 : w.heap.size < w5.heap.size := by omega
  have le_w1_w5 : w1.heap.size ≤ w5.heap.size := by omega
  try have lt_w1_w5 : w1.heap.size < w5.heap.size := by omega
  have le_w2_w5 : w2.heap.size ≤ w5.heap.size := by omega
  try have lt_w2_w5 : w2.heap.size < w5.heap.size := by omega
  have le_w3_w5 : w3.heap.size ≤ w5.heap.size := by omega
  try have lt_w3_w5 : w3.heap.size < w5.heap.size := by omega
  have le_w4_w5 : w4.heap.size ≤ w5.heap.size := by omega
  try have lt_w4_w5 : w4.heap.size < w5.heap.size := by omega
  go_wp2_with fail
  refine (rof_c _ _).mono ?_; rintro e w6 ⟨rfl, hb6⟩
  have hz6 := hb6.size; (try simp at hz6); obtain ⟨hc6, hf6⟩ := bcell hb6; have hB6 := below_step (w := w) hb6 (by repeat (first | assumption | exact Below.refl _ _ | (with_reducible refine Below.drew ?_) | (with_reducible refine below_drewN' ?_ _) | (with_reducible refine below_al ?_) | ((with_reducible refine below_set ?_ ?_); rotate_left; focus (first | (simp; done) | (simp; omega)))))
  have le_w_w6 : w.heap.size ≤ w6.heap.size := by omega
  try have lt_w_w6 : w.heap.size < w6.heap.size := by omega
  have le_w1_w6 : w1.heap.size ≤ w6.heap.size := by omega
  try have lt_w1_w6 : w1.heap.size < w6.heap.size := by omega
  have le_w2_w6 : w2.heap.size ≤ w6.heap.size := by omega
  try have lt_w2_w6 : w2.heap.size < w6.heap.size := by omega
  have le_w3_w6 : w3.heap.size ≤ w6.heap.size := by omega
  try have lt_w3_w6 : w3.heap.size < w6.heap.size := by omega
  have le_w4_w6 : w4.heap.size ≤ w6.heap.size := by omega
  try have lt_w4_w6 : w4.heap.size < w6.heap.size := by omega
  have le_w5_w6 : w5.heap.size ≤ w6.heap.size := by omega
  try have lt_w5_w6 : w5.heap.size < w6.heap.size := by omega
  go_wp2_with fail
  refine (shift_c _ _ _ (hL.below (by repeat (first | assumption | exact Below.refl _ _ | (with_reducible refine Below.drew ?_) | (with_reducible refine below_drewN' ?_ _) | (with_reducible refine below_al ?_) | ((with_reducible refine below_set ?_ ?_); rotate_left; focus (first | (simp; done) | (simp; omega))))))).mono ?_; rintro e w7 ⟨rfl, hb7⟩
  have hz7 := hb7.size; (try simp at hz7); obtain ⟨hc7, hf7⟩ := bcell hb7; have hB7 := below_step (w := w) hb7 (by repeat (first | assumption | exact Below.refl _ _ | (with_reducible refine Below.drew ?_) | (with_reducible refine below_drewN' ?_ _) | (with_reducible refine below_al ?_) | ((with_reducible refine below_set ?_ ?_); rotate_left; focus (first | (simp; done) | (simp; omega)))))
  have le_w_w7 : w.heap.size ≤ w7.heap.size := by omega
  try have lt_w_w7 : w.heap.size < w7.heap.size := by omega
  have le_w1_w7 : w1.heap.size ≤ w7.heap.size := by omega
  try have lt_w1_w7 : w1.heap.size < w7.heap.size := by omega
  have le_w2_w7 : w2.heap.size ≤ w7.heap.size := by omega
  try have lt_w2_w7 : w2.heap.size < w7.heap.size := by omega
  have le_w3_w7 : w3.heap.size ≤ w7.heap.size := by omega
  try have lt_w3_w7 : w3.heap.size < w7.heap.size := by omega
  have le_w4_w7 : w4.heap.size ≤ w7.heap.size := by omega
  try have lt_w4_w7 : w4.heap.size < w7.heap.size := by omega
  have le_w5_w7 : w5.heap.size ≤ w7.heap.size := by omega
  try have lt_w5_w7 : w5.heap.size < w7.heap.size := by omega
  have le_w6_w7 : w6.heap.size ≤ w7.heap.size := by omega
  try have lt_w6_w7 : w6.heap.size < w7.heap.size := by omega
  go_wp2_with fail
  refine (shift_c _ _ _ (hL.below (by repeat (first | assumption | exact Below.refl _ _ | (with_reducible refine Below.drew ?_) | (with_reducible refine below_drewN' ?_ _) | (with_reducible refine below_al ?_) | ((with_reducible refine below_set ?_ ?_); rotate_left; focus (first | (simp; done) | (simp; omega))))))).mono ?_; rintro e w8 ⟨rfl, hb8⟩
  have hz8 := hb8.size; (try simp at hz8); obtain ⟨hc8, hf8⟩ := bcell hb8; have hB8 := below_step (w := w) hb8 (by repeat (first | assumption | exact Below.refl _ _ | (with_reducible refine Below.drew ?_) | (with_reducible refine below_drewN' ?_ _) | (with_reducible refine below_al ?_) | ((with_reducible refine below_set ?_ ?_); rotate_left; focus (first | (simp; done) | (simp; omega)))))
  have le_w_w8 : w.heap.size ≤ w8.heap.size := by omega
  try have lt_w_w8 : w.heap.size < w8.heap.size := by omega
  have le_w1_w8 : w1.heap.size ≤ w8.heap.size := by omega
  try have lt_w1_w8 : w1.heap.size < w8.heap.size := by omega
  have le_w2_w8 : w2.heap.size ≤ w8.heap.size := by omega
  try have lt_w2_w8 : w2.heap.size < w8.heap.size := by omega
  have le_w3_w8 : w3.heap.size ≤ w8.heap.size := by omega
  try have lt_w3_w8 : w3.heap.size < w8.heap.size := by omega
  have le_w4_w8 : w4.heap.size ≤ w8.heap.size := by omega
  try have lt_w4_w8 : w4.heap.size < w8.heap.size := by omega
  have le_w5_w8 : w5.heap.size ≤ w8.heap.size := by omega
  try have lt_w5_w8 : w5.heap.size < w8.heap.size := by omega
  have le_w6_w8 : w6.heap.size ≤ w8.heap.size := by omega
  try have lt_w6_w8 : w6.heap.size < w8.heap.size := by omega
  have le_w7_w8 : w7.heap.size ≤ w8.heap.size := by omega
  try have lt_w7_w8 : w7.heap.size < w8.heap.size := by omega
  go_wp2_with fail
  go_ret
  exact ⟨rfl, by repeat (first | assumption | exact Below.refl _ _ | (with_reducible refine Below.drew ?_) | (with_reducible refine below_drewN' ?_ _) | (with_reducible refine below_al ?_) | ((with_reducible refine below_set ?_ ?_); rotate_left; focus (first | (simp; done) | (simp; omega))))⟩
set_option maxHeartbeats 1000000 in
theorem monthsBack_cut (n j k p q : Int) (j1 : -32768 ≤ j) (j2 : j ≤ 32767) (k1 : -32768 ≤ k) (k2 : k ≤ 32767) (hp : j.tmod 3000 = p) (hq : k.tmod 3000 = q) (p1 : -2999 ≤ p) (p2 : p ≤ 2999) (q1 : -2999 ≤ q) (q2 : q ≤ 2999) (h1 : 1 ≤ n) (h2 : n ≤ 3652059) (hk : Mon.okB n p = true) (hd : (Mon.D n p false == Cal.dOf n) = false) (w : World) (hL : Laid w) : Calls Tryd.prog 6 #[.int .i64 n, .int .i16 j, .int .i16 k] w fun e w' => e = .returned (.bool true) ∧ Below w.heap.size w w' := by
  obtain ⟨o1, o2, o3, o4⟩ := of_in h1 h2
  have od := dayB_in h1 h2
  have e0 := ok_yes hk
  have hb := Mon.back_ok hk
  have e1 := ok_yes hb
  obtain ⟨x1, x2⟩ := Mon.V_bd (eom := false) hk
  obtain ⟨y1, y2⟩ := Mon.V_bd (eom := false) hb
  obtain ⟨a1, a2, a3⟩ := Mon.of_V (eom := false) hk
  obtain ⟨b1, b2, b3⟩ := Mon.of_V (eom := false) hb
  rw [(Mon.back_YN hk).1] at b1; rw [(Mon.back_YN hk).2] at b2
  obtain ⟨r1, r2, r3, r4⟩ := of_in x1 x2
  rw [a3] at r3
  obtain ⟨s1, s2, s3, s4⟩ := of_in y1 y2
  rw [b1] at s1; rw [b2] at s2
  have be := Mon.back_eq hk
  rw [hd] at be
  have te := Mon.two_E hk q
  clear a1 a2 a3 b1 b2 b3 hb
  have hd' : (Mon.D n p false != Cal.dOf n) = true := by simpa using hd
  have hB : Below w.heap.size w w := Below.refl _ _
  go_enter Tryd.func6, Tryd.ntmps6
  go_wp2_with fail
  refine (shown05_c _ (hL.below (by repeat (first | assumption | exact Below.refl _ _ | (with_reducible refine Below.drew ?_) | (with_reducible refine below_drewN' ?_ _) | (with_reducible refine below_al ?_) | ((with_reducible refine below_set ?_ ?_); rotate_left; focus (first | (simp; done) | (simp; omega))))))).mono ?_; rintro e w1 ⟨rfl, hb1⟩
  have hz1 := hb1.size; (try simp at hz1); obtain ⟨hc1, hf1⟩ := bcell hb1; have hB1 := below_step (w := w) hb1 (by repeat (first | assumption | exact Below.refl _ _ | (with_reducible refine Below.drew ?_) | (with_reducible refine below_drewN' ?_ _) | (with_reducible refine below_al ?_) | ((with_reducible refine below_set ?_ ?_); rotate_left; focus (first | (simp; done) | (simp; omega)))))
  have le_w_w1 : w.heap.size ≤ w1.heap.size := by omega
  try have lt_w_w1 : w.heap.size < w1.heap.size := by omega
  go_wp2_with fail
  refine (rday_c _ _).mono ?_; rintro e w' ⟨rfl, rfl⟩
  go_wp2_with fail
  refine (shift_c _ _ _ (hL.below (by repeat (first | assumption | exact Below.refl _ _ | (with_reducible refine Below.drew ?_) | (with_reducible refine below_drewN' ?_ _) | (with_reducible refine below_al ?_) | ((with_reducible refine below_set ?_ ?_); rotate_left; focus (first | (simp; done) | (simp; omega))))))).mono ?_; rintro e w2 ⟨rfl, hb2⟩
  have hz2 := hb2.size; (try simp at hz2); obtain ⟨hc2, hf2⟩ := bcell hb2; have hB2 := below_step (w := w) hb2 (by repeat (first | assumption | exact Below.refl _ _ | (with_reducible refine Below.drew ?_) | (with_reducible refine below_drewN' ?_ _) | (with_reducible refine below_al ?_) | ((with_reducible refine below_set ?_ ?_); rotate_left; focus (first | (simp; done) | (simp; omega)))))
  have le_w_w2 : w.heap.size ≤ w2.heap.size := by omega
  try have lt_w_w2 : w.heap.size < w2.heap.size := by omega
  have le_w1_w2 : w1.heap.size ≤ w2.heap.size := by omega
  try have lt_w1_w2 : w1.heap.size < w2.heap.size := by omega
  go_wp2_with fail
  refine (shift_c _ _ _ (hL.below (by repeat (first | assumption | exact Below.refl _ _ | (with_reducible refine Below.drew ?_) | (with_reducible refine below_drewN' ?_ _) | (with_reducible refine below_al ?_) | ((with_reducible refine below_set ?_ ?_); rotate_left; focus (first | (simp; done) | (simp; omega))))))).mono ?_; rintro e w3 ⟨rfl, hb3⟩
  have hz3 := hb3.size; (try simp at hz3); obtain ⟨hc3, hf3⟩ := bcell hb3; have hB3 := below_step (w := w) hb3 (by repeat (first | assumption | exact Below.refl _ _ | (with_reducible refine Below.drew ?_) | (with_reducible refine below_drewN' ?_ _) | (with_reducible refine below_al ?_) | ((with_reducible refine below_set ?_ ?_); rotate_left; focus (first | (simp; done) | (simp; omega)))))
  have le_w_w3 : w.heap.size ≤ w3.heap.size := by omega
  try have lt_w_w3 : w.heap.size < w3.heap.size := by omega
  have le_w1_w3 : w1.heap.size ≤ w3.heap.size := by omega
  try have lt_w1_w3 : w1.heap.size < w3.heap.size := by omega
  have le_w2_w3 : w2.heap.size ≤ w3.heap.size := by omega
  try have lt_w2_w3 : w2.heap.size < w3.heap.size := by omega
  go_wp2_with fail
  refine (rof_c _ _).mono ?_; rintro e w4 ⟨rfl, hb4⟩
  have hz4 := hb4.size; (try simp at hz4); obtain ⟨hc4, hf4⟩ := bcell hb4; have hB4 := below_step (w := w) hb4 (by repeat (first | assumption | exact Below.refl _ _ | (with_reducible refine Below.drew ?_) | (with_reducible refine below_drewN' ?_ _) | (with_reducible refine below_al ?_) | ((with_reducible refine below_set ?_ ?_); rotate_left; focus (first | (simp; done) | (simp; omega)))))
  have le_w_w4 : w.heap.size ≤ w4.heap.size := by omega
  try have lt_w_w4 : w.heap.size < w4.heap.size := by omega
  have le_w1_w4 : w1.heap.size ≤ w4.heap.size := by omega
  try have lt_w1_w4 : w1.heap.size < w4.heap.size := by omega
  have le_w2_w4 : w2.heap.size ≤ w4.heap.size := by omega
  try have lt_w2_w4 : w2.heap.size < w4.heap.size := by omega
  have le_w3_w4 : w3.heap.size ≤ w4.heap.size := by omega
  try have lt_w3_w4 : w3.heap.size < w4.heap.size := by omega
  go_wp2_with fail
  refine (rof_c _ _).mono ?_; rintro e w5 ⟨rfl, hb5⟩
  have hz5 := hb5.size; (try simp at hz5); obtain ⟨hc5, hf5⟩ := bcell hb5; have hB5 := below_step (w := w) hb5 (by repeat (first | assumption | exact Below.refl _ _ | (with_reducible refine Below.drew ?_) | (with_reducible refine below_drewN' ?_ _) | (with_reducible refine below_al ?_) | ((with_reducible refine below_set ?_ ?_); rotate_left; focus (first | (simp; done) | (simp; omega)))))
  have le_w_w5 : w.heap.size ≤ w5.heap.size := by omega
  try have lt_w_w5 : w.heap.size < w5.heap.size := by omega
  have le_w1_w5 : w1.heap.size ≤ w5.heap.size := by omega
  try have lt_w1_w5 : w1.heap.size < w5.heap.size := by omega
  have le_w2_w5 : w2.heap.size ≤ w5.heap.size := by omega
  try have lt_w2_w5 : w2.heap.size < w5.heap.size := by omega
  have le_w3_w5 : w3.heap.size ≤ w5.heap.size := by omega
  try have lt_w3_w5 : w3.heap.size < w5.heap.size := by omega
  have le_w4_w5 : w4.heap.size ≤ w5.heap.size := by omega
  try have lt_w4_w5 : w4.heap.size < w5.heap.size := by omega
  go_wp2_with fail
  refine (rof_c _ _).mono ?_; rintro e w6 ⟨rfl, hb6⟩
  have hz6 := hb6.size; (try simp at hz6); obtain ⟨hc6, hf6⟩ := bcell hb6; have hB6 := below_step (w := w) hb6 (by repeat (first | assumption | exact Below.refl _ _ | (with_reducible refine Below.drew ?_) | (with_reducible refine below_drewN' ?_ _) | (with_reducible refine below_al ?_) | ((with_reducible refine below_set ?_ ?_); rotate_left; focus (first | (simp; done) | (simp; omega)))))
  have le_w_w6 : w.heap.size ≤ w6.heap.size := by omega
  try have lt_w_w6 : w.heap.size < w6.heap.size := by omega
  have le_w1_w6 : w1.heap.size ≤ w6.heap.size := by omega
  try have lt_w1_w6 : w1.heap.size < w6.heap.size := by omega
  have le_w2_w6 : w2.heap.size ≤ w6.heap.size := by omega
  try have lt_w2_w6 : w2.heap.size < w6.heap.size := by omega
  have le_w3_w6 : w3.heap.size ≤ w6.heap.size := by omega
  try have lt_w3_w6 : w3.heap.size < w6.heap.size := by omega
  have le_w4_w6 : w4.heap.size ≤ w6.heap.size := by omega
  try have lt_w4_w6 : w4.heap.size < w6.heap.size := by omega
  have le_w5_w6 : w5.heap.size ≤ w6.heap.size := by omega
  try have lt_w5_w6 : w5.heap.size < w6.heap.size := by omega
  go_wp2_with fail
  refine (shift_c _ _ _ (hL.below (by repeat (first | assumption | exact Below.refl _ _ | (with_reducible refine Below.drew ?_) | (with_reducible refine below_drewN' ?_ _) | (with_reducible refine below_al ?_) | ((with_reducible refine below_set ?_ ?_); rotate_left; focus (first | (simp; done) | (simp; omega))))))).mono ?_; rintro e w7 ⟨rfl, hb7⟩
  have hz7 := hb7.size; (try simp at hz7); obtain ⟨hc7, hf7⟩ := bcell hb7; have hB7 := below_step (w := w) hb7 (by repeat (first | assumption | exact Below.refl _ _ | (with_reducible refine Below.drew ?_) | (with_reducible refine below_drewN' ?_ _) | (with_reducible refine below_al ?_) | ((with_reducible refine below_set ?_ ?_); rotate_left; focus (first | (simp; done) | (simp; omega)))))
  have le_w_w7 : w.heap.size ≤ w7.heap.size := by omega
  try have lt_w_w7 : w.heap.size < w7.heap.size := by omega
  have le_w1_w7 : w1.heap.size ≤ w7.heap.size := by omega
  try have lt_w1_w7 : w1.heap.size < w7.heap.size := by omega
  have le_w2_w7 : w2.heap.size ≤ w7.heap.size := by omega
  try have lt_w2_w7 : w2.heap.size < w7.heap.size := by omega
  have le_w3_w7 : w3.heap.size ≤ w7.heap.size := by omega
  try have lt_w3_w7 : w3.heap.size < w7.heap.size := by omega
  have le_w4_w7 : w4.heap.size ≤ w7.heap.size := by omega
  try have lt_w4_w7 : w4.heap.size < w7.heap.size := by omega
  have le_w5_w7 : w5.heap.size ≤ w7.heap.size := by omega
  try have lt_w5_w7 : w5.heap.size < w7.heap.size := by omega
  have le_w6_w7 : w6.heap.size ≤ w7.heap.size := by omega
  try have lt_w6_w7 : w6.heap.size < w7.heap.size := by omega
  go_wp2_with fail
  refine (shift_c _ _ _ (hL.below (by repeat (first | assumption | exact Below.refl _ _ | (with_reducible refine Below.drew ?_) | (with_reducible refine below_drewN' ?_ _) | (with_reducible refine below_al ?_) | ((with_reducible refine below_set ?_ ?_); rotate_left; focus (first | (simp; done) | (simp; omega))))))).mono ?_; rintro e w8 ⟨rfl, hb8⟩
  have hz8 := hb8.size; (try simp at hz8); obtain ⟨hc8, hf8⟩ := bcell hb8; have hB8 := below_step (w := w) hb8 (by repeat (first | assumption | exact Below.refl _ _ | (with_reducible refine Below.drew ?_) | (with_reducible refine below_drewN' ?_ _) | (with_reducible refine below_al ?_) | ((with_reducible refine below_set ?_ ?_); rotate_left; focus (first | (simp; done) | (simp; omega)))))
  have le_w_w8 : w.heap.size ≤ w8.heap.size := by omega
  try have lt_w_w8 : w.heap.size < w8.heap.size := by omega
  have le_w1_w8 : w1.heap.size ≤ w8.heap.size := by omega
  try have lt_w1_w8 : w1.heap.size < w8.heap.size := by omega
  have le_w2_w8 : w2.heap.size ≤ w8.heap.size := by omega
  try have lt_w2_w8 : w2.heap.size < w8.heap.size := by omega
  have le_w3_w8 : w3.heap.size ≤ w8.heap.size := by omega
  try have lt_w3_w8 : w3.heap.size < w8.heap.size := by omega
  have le_w4_w8 : w4.heap.size ≤ w8.heap.size := by omega
  try have lt_w4_w8 : w4.heap.size < w8.heap.size := by omega
  have le_w5_w8 : w5.heap.size ≤ w8.heap.size := by omega
  try have lt_w5_w8 : w5.heap.size < w8.heap.size := by omega
  have le_w6_w8 : w6.heap.size ≤ w8.heap.size := by omega
  try have lt_w6_w8 : w6.heap.size < w8.heap.size := by omega
  have le_w7_w8 : w7.heap.size ≤ w8.heap.size := by omega
  try have lt_w7_w8 : w7.heap.size < w8.heap.size := by omega
  go_wp2_with fail
  go_ret
  exact ⟨rfl, by repeat (first | assumption | exact Below.refl _ _ | (with_reducible refine Below.drew ?_) | (with_reducible refine below_drewN' ?_ _) | (with_reducible refine below_al ?_) | ((with_reducible refine below_set ?_ ?_); rotate_left; focus (first | (simp; done) | (simp; omega))))⟩
theorem monthsBack_walk (n j k : Int) (j1 : -32768 ≤ j) (j2 : j ≤ 32767) (k1 : -32768 ≤ k) (k2 : k ≤ 32767) (w : World) (hL : Laid w) : Calls Tryd.prog 6 #[.int .i64 n, .int .i16 j, .int .i16 k] w fun e w' => e = .returned (.bool true) ∧ Below w.heap.size w w' := by
  obtain ⟨p1, p2⟩ := tmod3000 j j1 j2
  obtain ⟨q1, q2⟩ := tmod3000 k k1 k2
  by_cases h : 1 ≤ n ∧ n ≤ 3652059
  · cases hk : Mon.okB n (j.tmod 3000)
    · exact monthsBack_no n j k _ _ j1 j2 k1 k2 rfl rfl p1 p2 q1 q2 h.1 h.2 hk w hL
    · cases hd : Mon.D n (j.tmod 3000) false == Cal.dOf n
      · exact monthsBack_cut n j k _ _ j1 j2 k1 k2 rfl rfl p1 p2 q1 q2 h.1 h.2 hk hd w hL
      · exact monthsBack_same n j k _ _ j1 j2 k1 k2 rfl rfl p1 p2 q1 q2 h.1 h.2 hk hd w hL
  · exact monthsBack_out n j k _ _ j1 j2 k1 k2 rfl rfl p1 p2 q1 q2 (show _ ∨ _ by omega) w hL

set_option maxHeartbeats 1000000 in
theorem monthsRise_out (n m k j : Int) (k1 : -32768 ≤ k) (k2 : k ≤ 32767) (j1 : 0 ≤ j) (j2 : j ≤ 255) (h : Hid (n < 1 ∨ 3652059 < n)) (w : World) (hL : Laid w) : Calls Tryd.prog 7 #[.agg #[.int .i64 n, .int .i64 m, .int .i16 k, .int .u8 j]] w fun e w' => e = .returned (.bool true) ∧ Below w.heap.size w w' := by
  have od := dayB_out h.out
  have hB : Below w.heap.size w w := Below.refl _ _
  go_enter Tryd.func7, Tryd.ntmps7
  go_wp2_with fail
  refine (shown05_c _ (hL.below (by repeat (first | assumption | exact Below.refl _ _ | (with_reducible refine Below.drew ?_) | (with_reducible refine below_drewN' ?_ _) | (with_reducible refine below_al ?_) | ((with_reducible refine below_set ?_ ?_); rotate_left; focus (first | (simp; done) | (simp; omega))))))).mono ?_; rintro e w1 ⟨rfl, hb1⟩
  have hz1 := hb1.size; (try simp at hz1); obtain ⟨hc1, hf1⟩ := bcell hb1; have hB1 := below_step (w := w) hb1 (by repeat (first | assumption | exact Below.refl _ _ | (with_reducible refine Below.drew ?_) | (with_reducible refine below_drewN' ?_ _) | (with_reducible refine below_al ?_) | ((with_reducible refine below_set ?_ ?_); rotate_left; focus (first | (simp; done) | (simp; omega)))))
  have le_w_w1 : w.heap.size ≤ w1.heap.size := by omega
  try have lt_w_w1 : w.heap.size < w1.heap.size := by omega
  go_wp2_with fail
  refine (rday_c _ _).mono ?_; rintro e w' ⟨rfl, rfl⟩
  go_wp2_with fail
  go_ret
  exact ⟨rfl, by repeat (first | assumption | exact Below.refl _ _ | (with_reducible refine Below.drew ?_) | (with_reducible refine below_drewN' ?_ _) | (with_reducible refine below_al ?_) | ((with_reducible refine below_set ?_ ?_); rotate_left; focus (first | (simp; done) | (simp; omega))))⟩
set_option maxHeartbeats 1000000 in
theorem monthsRise_out2 (n m k j : Int) (k1 : -32768 ≤ k) (k2 : k ≤ 32767) (j1 : 0 ≤ j) (j2 : j ≤ 255) (on : dayB n = true) (h : Hid (m < 1 ∨ 3652059 < m)) (w : World) (hL : Laid w) : Calls Tryd.prog 7 #[.agg #[.int .i64 n, .int .i64 m, .int .i16 k, .int .u8 j]] w fun e w' => e = .returned (.bool true) ∧ Below w.heap.size w w' := by
  have od := dayB_out h.out
  have hB : Below w.heap.size w w := Below.refl _ _
  go_enter Tryd.func7, Tryd.ntmps7
  go_wp2_with fail
  refine (shown05_c _ (hL.below (by repeat (first | assumption | exact Below.refl _ _ | (with_reducible refine Below.drew ?_) | (with_reducible refine below_drewN' ?_ _) | (with_reducible refine below_al ?_) | ((with_reducible refine below_set ?_ ?_); rotate_left; focus (first | (simp; done) | (simp; omega))))))).mono ?_; rintro e w1 ⟨rfl, hb1⟩
  have hz1 := hb1.size; (try simp at hz1); obtain ⟨hc1, hf1⟩ := bcell hb1; have hB1 := below_step (w := w) hb1 (by repeat (first | assumption | exact Below.refl _ _ | (with_reducible refine Below.drew ?_) | (with_reducible refine below_drewN' ?_ _) | (with_reducible refine below_al ?_) | ((with_reducible refine below_set ?_ ?_); rotate_left; focus (first | (simp; done) | (simp; omega)))))
  have le_w_w1 : w.heap.size ≤ w1.heap.size := by omega
  try have lt_w_w1 : w.heap.size < w1.heap.size := by omega
  go_wp2_with fail
  refine (rday_c _ _).mono ?_; rintro e w' ⟨rfl, rfl⟩
  go_wp2_with fail
  refine (rday_c _ _).mono ?_; rintro e w' ⟨rfl, rfl⟩
  go_wp2_with fail
  go_ret
  exact ⟨rfl, by repeat (first | assumption | exact Below.refl _ _ | (with_reducible refine Below.drew ?_) | (with_reducible refine below_drewN' ?_ _) | (with_reducible refine below_al ?_) | ((with_reducible refine below_set ?_ ?_); rotate_left; focus (first | (simp; done) | (simp; omega))))⟩
set_option maxHeartbeats 1000000 in
theorem monthsRise_no (n m k j : Int) (k1 : -32768 ≤ k) (k2 : k ≤ 32767) (j1 : 0 ≤ j) (j2 : j ≤ 255) (on : dayB n = true) (om : dayB m = true) (hk : Mon.okB n k = false) (w : World) (hL : Laid w) : Calls Tryd.prog 7 #[.agg #[.int .i64 n, .int .i64 m, .int .i16 k, .int .u8 j]] w fun e w' => e = .returned (.bool true) ∧ Below w.heap.size w w' := by
  have e0 := ok_no hk
  have hB : Below w.heap.size w w := Below.refl _ _
  go_enter Tryd.func7, Tryd.ntmps7
  go_wp2_with fail
  refine (shown05_c _ (hL.below (by repeat (first | assumption | exact Below.refl _ _ | (with_reducible refine Below.drew ?_) | (with_reducible refine below_drewN' ?_ _) | (with_reducible refine below_al ?_) | ((with_reducible refine below_set ?_ ?_); rotate_left; focus (first | (simp; done) | (simp; omega))))))).mono ?_; rintro e w1 ⟨rfl, hb1⟩
  have hz1 := hb1.size; (try simp at hz1); obtain ⟨hc1, hf1⟩ := bcell hb1; have hB1 := below_step (w := w) hb1 (by repeat (first | assumption | exact Below.refl _ _ | (with_reducible refine Below.drew ?_) | (with_reducible refine below_drewN' ?_ _) | (with_reducible refine below_al ?_) | ((with_reducible refine below_set ?_ ?_); rotate_left; focus (first | (simp; done) | (simp; omega)))))
  have le_w_w1 : w.heap.size ≤ w1.heap.size := by omega
  try have lt_w_w1 : w.heap.size < w1.heap.size := by omega
  go_wp2_with fail
  refine (rday_c _ _).mono ?_; rintro e w' ⟨rfl, rfl⟩
  go_wp2_with fail
  refine (rday_c _ _).mono ?_; rintro e w' ⟨rfl, rfl⟩
  go_wp2_with fail
  refine (shift_c _ _ _ (hL.below (by repeat (first | assumption | exact Below.refl _ _ | (with_reducible refine Below.drew ?_) | (with_reducible refine below_drewN' ?_ _) | (with_reducible refine below_al ?_) | ((with_reducible refine below_set ?_ ?_); rotate_left; focus (first | (simp; done) | (simp; omega))))))).mono ?_; rintro e w2 ⟨rfl, hb2⟩
  have hz2 := hb2.size; (try simp at hz2); obtain ⟨hc2, hf2⟩ := bcell hb2; have hB2 := below_step (w := w) hb2 (by repeat (first | assumption | exact Below.refl _ _ | (with_reducible refine Below.drew ?_) | (with_reducible refine below_drewN' ?_ _) | (with_reducible refine below_al ?_) | ((with_reducible refine below_set ?_ ?_); rotate_left; focus (first | (simp; done) | (simp; omega)))))
  have le_w_w2 : w.heap.size ≤ w2.heap.size := by omega
  try have lt_w_w2 : w.heap.size < w2.heap.size := by omega
  have le_w1_w2 : w1.heap.size ≤ w2.heap.size := by omega
  try have lt_w1_w2 : w1.heap.size < w2.heap.size := by omega
  go_wp2_with fail
  refine (shift_c _ _ _ (hL.below (by repeat (first | assumption | exact Below.refl _ _ | (with_reducible refine Below.drew ?_) | (with_reducible refine below_drewN' ?_ _) | (with_reducible refine below_al ?_) | ((with_reducible refine below_set ?_ ?_); rotate_left; focus (first | (simp; done) | (simp; omega))))))).mono ?_; rintro e w3 ⟨rfl, hb3⟩
  have hz3 := hb3.size; (try simp at hz3); obtain ⟨hc3, hf3⟩ := bcell hb3; have hB3 := below_step (w := w) hb3 (by repeat (first | assumption | exact Below.refl _ _ | (with_reducible refine Below.drew ?_) | (with_reducible refine below_drewN' ?_ _) | (with_reducible refine below_al ?_) | ((with_reducible refine below_set ?_ ?_); rotate_left; focus (first | (simp; done) | (simp; omega)))))
  have le_w_w3 : w.heap.size ≤ w3.heap.size := by omega
  try have lt_w_w3 : w.heap.size < w3.heap.size := by omega
  have le_w1_w3 : w1.heap.size ≤ w3.heap.size := by omega
  try have lt_w1_w3 : w1.heap.size < w3.heap.size := by omega
  have le_w2_w3 : w2.heap.size ≤ w3.heap.size := by omega
  try have lt_w2_w3 : w2.heap.size < w3.heap.size := by omega
  go_wp2_with fail
  refine (shift_c _ _ _ (hL.below (by repeat (first | assumption | exact Below.refl _ _ | (with_reducible refine Below.drew ?_) | (with_reducible refine below_drewN' ?_ _) | (with_reducible refine below_al ?_) | ((with_reducible refine below_set ?_ ?_); rotate_left; focus (first | (simp; done) | (simp; omega))))))).mono ?_; rintro e w4 ⟨rfl, hb4⟩
  have hz4 := hb4.size; (try simp at hz4); obtain ⟨hc4, hf4⟩ := bcell hb4; have hB4 := below_step (w := w) hb4 (by repeat (first | assumption | exact Below.refl _ _ | (with_reducible refine Below.drew ?_) | (with_reducible refine below_drewN' ?_ _) | (with_reducible refine below_al ?_) | ((with_reducible refine below_set ?_ ?_); rotate_left; focus (first | (simp; done) | (simp; omega)))))
  have le_w_w4 : w.heap.size ≤ w4.heap.size := by omega
  try have lt_w_w4 : w.heap.size < w4.heap.size := by omega
  have le_w1_w4 : w1.heap.size ≤ w4.heap.size := by omega
  try have lt_w1_w4 : w1.heap.size < w4.heap.size := by omega
  have le_w2_w4 : w2.heap.size ≤ w4.heap.size := by omega
  try have lt_w2_w4 : w2.heap.size < w4.heap.size := by omega
  have le_w3_w4 : w3.heap.size ≤ w4.heap.size := by omega
  try have lt_w3_w4 : w3.heap.size < w4.heap.size := by omega
  go_wp2_with fail
  refine (move_c _ _ _ _ (hL.below (by repeat (first | assumption | exact Below.refl _ _ | (with_reducible refine Below.drew ?_) | (with_reducible refine below_drewN' ?_ _) | (with_reducible refine below_al ?_) | ((with_reducible refine below_set ?_ ?_); rotate_left; focus (first | (simp; done) | (simp; omega))))))).mono ?_; rintro e w5 ⟨rfl, hb5⟩
  have hz5 := hb5.size; (try simp at hz5); obtain ⟨hc5, hf5⟩ := bcell hb5; have hB5 := below_step (w := w) hb5 (by repeat (first | assumption | exact Below.refl _ _ | (with_reducible refine Below.drew ?_) | (with_reducible refine below_drewN' ?_ _) | (with_reducible refine below_al ?_) | ((with_reducible refine below_set ?_ ?_); rotate_left; focus (first | (simp; done) | (simp; omega)))))
  have le_w_w5 : w.heap.size ≤ w5.heap.size := by omega
  try have lt_w_w5 : w.heap.size < w5.heap.size := by omega
  have le_w1_w5 : w1.heap.size ≤ w5.heap.size := by omega
  try have lt_w1_w5 : w1.heap.size < w5.heap.size := by omega
  have le_w2_w5 : w2.heap.size ≤ w5.heap.size := by omega
  try have lt_w2_w5 : w2.heap.size < w5.heap.size := by omega
  have le_w3_w5 : w3.heap.size ≤ w5.heap.size := by omega
  try have lt_w3_w5 : w3.heap.size < w5.heap.size := by omega
  have le_w4_w5 : w4.heap.size ≤ w5.heap.size := by omega
  try have lt_w4_w5 : w4.heap.size < w5.heap.size := by omega
  go_wp2_with fail
  go_ret
  exact ⟨rfl, by repeat (first | assumption | exact Below.refl _ _ | (with_reducible refine Below.drew ?_) | (with_reducible refine below_drewN' ?_ _) | (with_reducible refine below_al ?_) | ((with_reducible refine below_set ?_ ?_); rotate_left; focus (first | (simp; done) | (simp; omega))))⟩
set_option maxHeartbeats 1000000 in
theorem monthsRise_t_no (n m k j : Int) (k1 : -32768 ≤ k) (k2 : k ≤ 32767) (j1 : 0 ≤ j) (j2 : j ≤ 255) (on : dayB n = true) (om : dayB m = true) (hk : Mon.okB n k = true) (hj : Mon.okB n (k + 1 + j) = true) (hm : Mon.okB m k = false) (w : World) (hL : Laid w) : Calls Tryd.prog 7 #[.agg #[.int .i64 n, .int .i64 m, .int .i16 k, .int .u8 j]] w fun e w' => e = .returned (.bool true) ∧ Below w.heap.size w w' := by
  have e0 := ok_yes hk
  have e1 := ok_yes hj
  have e2 := ok_no hm
  obtain ⟨r1, r2⟩ := Mon.rise_end hk
  obtain ⟨v1, v2⟩ := Mon.V_bd (eom := false) hk
  have r3 := Mon.rise_more hk hj j1
  have hB : Below w.heap.size w w := Below.refl _ _
  go_enter Tryd.func7, Tryd.ntmps7
  go_wp2_with fail
  refine (shown05_c _ (hL.below (by repeat (first | assumption | exact Below.refl _ _ | (with_reducible refine Below.drew ?_) | (with_reducible refine below_drewN' ?_ _) | (with_reducible refine below_al ?_) | ((with_reducible refine below_set ?_ ?_); rotate_left; focus (first | (simp; done) | (simp; omega))))))).mono ?_; rintro e w1 ⟨rfl, hb1⟩
  have hz1 := hb1.size; (try simp at hz1); obtain ⟨hc1, hf1⟩ := bcell hb1; have hB1 := below_step (w := w) hb1 (by repeat (first | assumption | exact Below.refl _ _ | (with_reducible refine Below.drew ?_) | (with_reducible refine below_drewN' ?_ _) | (with_reducible refine below_al ?_) | ((with_reducible refine below_set ?_ ?_); rotate_left; focus (first | (simp; done) | (simp; omega)))))
  have le_w_w1 : w.heap.size ≤ w1.heap.size := by omega
  try have lt_w_w1 : w.heap.size < w1.heap.size := by omega
  go_wp2_with fail
  refine (rday_c _ _).mono ?_; rintro e w' ⟨rfl, rfl⟩
  go_wp2_with fail
  refine (rday_c _ _).mono ?_; rintro e w' ⟨rfl, rfl⟩
  go_wp2_with fail
  refine (shift_c _ _ _ (hL.below (by repeat (first | assumption | exact Below.refl _ _ | (with_reducible refine Below.drew ?_) | (with_reducible refine below_drewN' ?_ _) | (with_reducible refine below_al ?_) | ((with_reducible refine below_set ?_ ?_); rotate_left; focus (first | (simp; done) | (simp; omega))))))).mono ?_; rintro e w2 ⟨rfl, hb2⟩
  have hz2 := hb2.size; (try simp at hz2); obtain ⟨hc2, hf2⟩ := bcell hb2; have hB2 := below_step (w := w) hb2 (by repeat (first | assumption | exact Below.refl _ _ | (with_reducible refine Below.drew ?_) | (with_reducible refine below_drewN' ?_ _) | (with_reducible refine below_al ?_) | ((with_reducible refine below_set ?_ ?_); rotate_left; focus (first | (simp; done) | (simp; omega)))))
  have le_w_w2 : w.heap.size ≤ w2.heap.size := by omega
  try have lt_w_w2 : w.heap.size < w2.heap.size := by omega
  have le_w1_w2 : w1.heap.size ≤ w2.heap.size := by omega
  try have lt_w1_w2 : w1.heap.size < w2.heap.size := by omega
  go_wp2_with fail
  refine (shift_c _ _ _ (hL.below (by repeat (first | assumption | exact Below.refl _ _ | (with_reducible refine Below.drew ?_) | (with_reducible refine below_drewN' ?_ _) | (with_reducible refine below_al ?_) | ((with_reducible refine below_set ?_ ?_); rotate_left; focus (first | (simp; done) | (simp; omega))))))).mono ?_; rintro e w3 ⟨rfl, hb3⟩
  have hz3 := hb3.size; (try simp at hz3); obtain ⟨hc3, hf3⟩ := bcell hb3; have hB3 := below_step (w := w) hb3 (by repeat (first | assumption | exact Below.refl _ _ | (with_reducible refine Below.drew ?_) | (with_reducible refine below_drewN' ?_ _) | (with_reducible refine below_al ?_) | ((with_reducible refine below_set ?_ ?_); rotate_left; focus (first | (simp; done) | (simp; omega)))))
  have le_w_w3 : w.heap.size ≤ w3.heap.size := by omega
  try have lt_w_w3 : w.heap.size < w3.heap.size := by omega
  have le_w1_w3 : w1.heap.size ≤ w3.heap.size := by omega
  try have lt_w1_w3 : w1.heap.size < w3.heap.size := by omega
  have le_w2_w3 : w2.heap.size ≤ w3.heap.size := by omega
  try have lt_w2_w3 : w2.heap.size < w3.heap.size := by omega
  go_wp2_with fail
  refine (shift_c _ _ _ (hL.below (by repeat (first | assumption | exact Below.refl _ _ | (with_reducible refine Below.drew ?_) | (with_reducible refine below_drewN' ?_ _) | (with_reducible refine below_al ?_) | ((with_reducible refine below_set ?_ ?_); rotate_left; focus (first | (simp; done) | (simp; omega))))))).mono ?_; rintro e w4 ⟨rfl, hb4⟩
  have hz4 := hb4.size; (try simp at hz4); obtain ⟨hc4, hf4⟩ := bcell hb4; have hB4 := below_step (w := w) hb4 (by repeat (first | assumption | exact Below.refl _ _ | (with_reducible refine Below.drew ?_) | (with_reducible refine below_drewN' ?_ _) | (with_reducible refine below_al ?_) | ((with_reducible refine below_set ?_ ?_); rotate_left; focus (first | (simp; done) | (simp; omega)))))
  have le_w_w4 : w.heap.size ≤ w4.heap.size := by omega
  try have lt_w_w4 : w.heap.size < w4.heap.size := by omega
  have le_w1_w4 : w1.heap.size ≤ w4.heap.size := by omega
  try have lt_w1_w4 : w1.heap.size < w4.heap.size := by omega
  have le_w2_w4 : w2.heap.size ≤ w4.heap.size := by omega
  try have lt_w2_w4 : w2.heap.size < w4.heap.size := by omega
  have le_w3_w4 : w3.heap.size ≤ w4.heap.size := by omega
  try have lt_w3_w4 : w3.heap.size < w4.heap.size := by omega
  go_wp2_with fail
  refine (move_c _ _ _ _ (hL.below (by repeat (first | assumption | exact Below.refl _ _ | (with_reducible refine Below.drew ?_) | (with_reducible refine below_drewN' ?_ _) | (with_reducible refine below_al ?_) | ((with_reducible refine below_set ?_ ?_); rotate_left; focus (first | (simp; done) | (simp; omega))))))).mono ?_; rintro e w5 ⟨rfl, hb5⟩
  have hz5 := hb5.size; (try simp at hz5); obtain ⟨hc5, hf5⟩ := bcell hb5; have hB5 := below_step (w := w) hb5 (by repeat (first | assumption | exact Below.refl _ _ | (with_reducible refine Below.drew ?_) | (with_reducible refine below_drewN' ?_ _) | (with_reducible refine below_al ?_) | ((with_reducible refine below_set ?_ ?_); rotate_left; focus (first | (simp; done) | (simp; omega)))))
  have le_w_w5 : w.heap.size ≤ w5.heap.size := by omega
  try have lt_w_w5 : w.heap.size < w5.heap.size := by omega
  have le_w1_w5 : w1.heap.size ≤ w5.heap.size := by omega
  try have lt_w1_w5 : w1.heap.size < w5.heap.size := by omega
  have le_w2_w5 : w2.heap.size ≤ w5.heap.size := by omega
  try have lt_w2_w5 : w2.heap.size < w5.heap.size := by omega
  have le_w3_w5 : w3.heap.size ≤ w5.heap.size := by omega
  try have lt_w3_w5 : w3.heap.size < w5.heap.size := by omega
  have le_w4_w5 : w4.heap.size ≤ w5.heap.size := by omega
  try have lt_w4_w5 : w4.heap.size < w5.heap.size := by omega
  go_wp2_with fail
  go_ret
  exact ⟨rfl, by repeat (first | assumption | exact Below.refl _ _ | (with_reducible refine Below.drew ?_) | (with_reducible refine below_drewN' ?_ _) | (with_reducible refine below_al ?_) | ((with_reducible refine below_set ?_ ?_); rotate_left; focus (first | (simp; done) | (simp; omega))))⟩
set_option maxHeartbeats 1000000 in
theorem monthsRise_t_lt (n m k j : Int) (k1 : -32768 ≤ k) (k2 : k ≤ 32767) (j1 : 0 ≤ j) (j2 : j ≤ 255) (on : dayB n = true) (om : dayB m = true) (hk : Mon.okB n k = true) (hj : Mon.okB n (k + 1 + j) = true) (hm : Mon.okB m k = true) (c : m < n) (w : World) (hL : Laid w) : Calls Tryd.prog 7 #[.agg #[.int .i64 n, .int .i64 m, .int .i16 k, .int .u8 j]] w fun e w' => e = .returned (.bool true) ∧ Below w.heap.size w w' := by
  have e0 := ok_yes hk
  have e1 := ok_yes hj
  have e2 := ok_yes hm
  obtain ⟨r1, r2⟩ := Mon.rise_end hk
  obtain ⟨v1, v2⟩ := Mon.V_bd (eom := false) hk
  have r3 := Mon.rise_more hk hj j1
  have hB : Below w.heap.size w w := Below.refl _ _
  go_enter Tryd.func7, Tryd.ntmps7
  go_wp2_with fail
  refine (shown05_c _ (hL.below (by repeat (first | assumption | exact Below.refl _ _ | (with_reducible refine Below.drew ?_) | (with_reducible refine below_drewN' ?_ _) | (with_reducible refine below_al ?_) | ((with_reducible refine below_set ?_ ?_); rotate_left; focus (first | (simp; done) | (simp; omega))))))).mono ?_; rintro e w1 ⟨rfl, hb1⟩
  have hz1 := hb1.size; (try simp at hz1); obtain ⟨hc1, hf1⟩ := bcell hb1; have hB1 := below_step (w := w) hb1 (by repeat (first | assumption | exact Below.refl _ _ | (with_reducible refine Below.drew ?_) | (with_reducible refine below_drewN' ?_ _) | (with_reducible refine below_al ?_) | ((with_reducible refine below_set ?_ ?_); rotate_left; focus (first | (simp; done) | (simp; omega)))))
  have le_w_w1 : w.heap.size ≤ w1.heap.size := by omega
  try have lt_w_w1 : w.heap.size < w1.heap.size := by omega
  go_wp2_with fail
  refine (rday_c _ _).mono ?_; rintro e w' ⟨rfl, rfl⟩
  go_wp2_with fail
  refine (rday_c _ _).mono ?_; rintro e w' ⟨rfl, rfl⟩
  go_wp2_with fail
  refine (shift_c _ _ _ (hL.below (by repeat (first | assumption | exact Below.refl _ _ | (with_reducible refine Below.drew ?_) | (with_reducible refine below_drewN' ?_ _) | (with_reducible refine below_al ?_) | ((with_reducible refine below_set ?_ ?_); rotate_left; focus (first | (simp; done) | (simp; omega))))))).mono ?_; rintro e w2 ⟨rfl, hb2⟩
  have hz2 := hb2.size; (try simp at hz2); obtain ⟨hc2, hf2⟩ := bcell hb2; have hB2 := below_step (w := w) hb2 (by repeat (first | assumption | exact Below.refl _ _ | (with_reducible refine Below.drew ?_) | (with_reducible refine below_drewN' ?_ _) | (with_reducible refine below_al ?_) | ((with_reducible refine below_set ?_ ?_); rotate_left; focus (first | (simp; done) | (simp; omega)))))
  have le_w_w2 : w.heap.size ≤ w2.heap.size := by omega
  try have lt_w_w2 : w.heap.size < w2.heap.size := by omega
  have le_w1_w2 : w1.heap.size ≤ w2.heap.size := by omega
  try have lt_w1_w2 : w1.heap.size < w2.heap.size := by omega
  go_wp2_with fail
  refine (shift_c _ _ _ (hL.below (by repeat (first | assumption | exact Below.refl _ _ | (with_reducible refine Below.drew ?_) | (with_reducible refine below_drewN' ?_ _) | (with_reducible refine below_al ?_) | ((with_reducible refine below_set ?_ ?_); rotate_left; focus (first | (simp; done) | (simp; omega))))))).mono ?_; rintro e w3 ⟨rfl, hb3⟩
  have hz3 := hb3.size; (try simp at hz3); obtain ⟨hc3, hf3⟩ := bcell hb3; have hB3 := below_step (w := w) hb3 (by repeat (first | assumption | exact Below.refl _ _ | (with_reducible refine Below.drew ?_) | (with_reducible refine below_drewN' ?_ _) | (with_reducible refine below_al ?_) | ((with_reducible refine below_set ?_ ?_); rotate_left; focus (first | (simp; done) | (simp; omega)))))
  have le_w_w3 : w.heap.size ≤ w3.heap.size := by omega
  try have lt_w_w3 : w.heap.size < w3.heap.size := by omega
  have le_w1_w3 : w1.heap.size ≤ w3.heap.size := by omega
  try have lt_w1_w3 : w1.heap.size < w3.heap.size := by omega
  have le_w2_w3 : w2.heap.size ≤ w3.heap.size := by omega
  try have lt_w2_w3 : w2.heap.size < w3.heap.size := by omega
  go_wp2_with fail
  refine (shift_c _ _ _ (hL.below (by repeat (first | assumption | exact Below.refl _ _ | (with_reducible refine Below.drew ?_) | (with_reducible refine below_drewN' ?_ _) | (with_reducible refine below_al ?_) | ((with_reducible refine below_set ?_ ?_); rotate_left; focus (first | (simp; done) | (simp; omega))))))).mono ?_; rintro e w4 ⟨rfl, hb4⟩
  have hz4 := hb4.size; (try simp at hz4); obtain ⟨hc4, hf4⟩ := bcell hb4; have hB4 := below_step (w := w) hb4 (by repeat (first | assumption | exact Below.refl _ _ | (with_reducible refine Below.drew ?_) | (with_reducible refine below_drewN' ?_ _) | (with_reducible refine below_al ?_) | ((with_reducible refine below_set ?_ ?_); rotate_left; focus (first | (simp; done) | (simp; omega)))))
  have le_w_w4 : w.heap.size ≤ w4.heap.size := by omega
  try have lt_w_w4 : w.heap.size < w4.heap.size := by omega
  have le_w1_w4 : w1.heap.size ≤ w4.heap.size := by omega
  try have lt_w1_w4 : w1.heap.size < w4.heap.size := by omega
  have le_w2_w4 : w2.heap.size ≤ w4.heap.size := by omega
  try have lt_w2_w4 : w2.heap.size < w4.heap.size := by omega
  have le_w3_w4 : w3.heap.size ≤ w4.heap.size := by omega
  try have lt_w3_w4 : w3.heap.size < w4.heap.size := by omega
  go_wp2_with fail
  refine (move_c _ _ _ _ (hL.below (by repeat (first | assumption | exact Below.refl _ _ | (with_reducible refine Below.drew ?_) | (with_reducible refine below_drewN' ?_ _) | (with_reducible refine below_al ?_) | ((with_reducible refine below_set ?_ ?_); rotate_left; focus (first | (simp; done) | (simp; omega))))))).mono ?_; rintro e w5 ⟨rfl, hb5⟩
  have hz5 := hb5.size; (try simp at hz5); obtain ⟨hc5, hf5⟩ := bcell hb5; have hB5 := below_step (w := w) hb5 (by repeat (first | assumption | exact Below.refl _ _ | (with_reducible refine Below.drew ?_) | (with_reducible refine below_drewN' ?_ _) | (with_reducible refine below_al ?_) | ((with_reducible refine below_set ?_ ?_); rotate_left; focus (first | (simp; done) | (simp; omega)))))
  have le_w_w5 : w.heap.size ≤ w5.heap.size := by omega
  try have lt_w_w5 : w.heap.size < w5.heap.size := by omega
  have le_w1_w5 : w1.heap.size ≤ w5.heap.size := by omega
  try have lt_w1_w5 : w1.heap.size < w5.heap.size := by omega
  have le_w2_w5 : w2.heap.size ≤ w5.heap.size := by omega
  try have lt_w2_w5 : w2.heap.size < w5.heap.size := by omega
  have le_w3_w5 : w3.heap.size ≤ w5.heap.size := by omega
  try have lt_w3_w5 : w3.heap.size < w5.heap.size := by omega
  have le_w4_w5 : w4.heap.size ≤ w5.heap.size := by omega
  try have lt_w4_w5 : w4.heap.size < w5.heap.size := by omega
  go_wp2_with fail
  go_ret
  exact ⟨rfl, by repeat (first | assumption | exact Below.refl _ _ | (with_reducible refine Below.drew ?_) | (with_reducible refine below_drewN' ?_ _) | (with_reducible refine below_al ?_) | ((with_reducible refine below_set ?_ ?_); rotate_left; focus (first | (simp; done) | (simp; omega))))⟩
set_option maxHeartbeats 1000000 in
theorem monthsRise_t_le (n m k j : Int) (k1 : -32768 ≤ k) (k2 : k ≤ 32767) (j1 : 0 ≤ j) (j2 : j ≤ 255) (on : dayB n = true) (om : dayB m = true) (hk : Mon.okB n k = true) (hj : Mon.okB n (k + 1 + j) = true) (hm : Mon.okB m k = true) (c : n ≤ m) (w : World) (hL : Laid w) : Calls Tryd.prog 7 #[.agg #[.int .i64 n, .int .i64 m, .int .i16 k, .int .u8 j]] w fun e w' => e = .returned (.bool true) ∧ Below w.heap.size w w' := by
  have e0 := ok_yes hk
  have e1 := ok_yes hj
  have e2 := ok_yes hm
  obtain ⟨r1, r2⟩ := Mon.rise_end hk
  obtain ⟨v1, v2⟩ := Mon.V_bd (eom := false) hk
  have r3 := Mon.rise_more hk hj j1
  have r4 := Mon.rise_day hk hm c
  have hB : Below w.heap.size w w := Below.refl _ _
  go_enter Tryd.func7, Tryd.ntmps7
  go_wp2_with fail
  refine (shown05_c _ (hL.below (by repeat (first | assumption | exact Below.refl _ _ | (with_reducible refine Below.drew ?_) | (with_reducible refine below_drewN' ?_ _) | (with_reducible refine below_al ?_) | ((with_reducible refine below_set ?_ ?_); rotate_left; focus (first | (simp; done) | (simp; omega))))))).mono ?_; rintro e w1 ⟨rfl, hb1⟩
  have hz1 := hb1.size; (try simp at hz1); obtain ⟨hc1, hf1⟩ := bcell hb1; have hB1 := below_step (w := w) hb1 (by repeat (first | assumption | exact Below.refl _ _ | (with_reducible refine Below.drew ?_) | (with_reducible refine below_drewN' ?_ _) | (with_reducible refine below_al ?_) | ((with_reducible refine below_set ?_ ?_); rotate_left; focus (first | (simp; done) | (simp; omega)))))
  have le_w_w1 : w.heap.size ≤ w1.heap.size := by omega
  try have lt_w_w1 : w.heap.size < w1.heap.size := by omega
  go_wp2_with fail
  refine (rday_c _ _).mono ?_; rintro e w' ⟨rfl, rfl⟩
  go_wp2_with fail
  refine (rday_c _ _).mono ?_; rintro e w' ⟨rfl, rfl⟩
  go_wp2_with fail
  refine (shift_c _ _ _ (hL.below (by repeat (first | assumption | exact Below.refl _ _ | (with_reducible refine Below.drew ?_) | (with_reducible refine below_drewN' ?_ _) | (with_reducible refine below_al ?_) | ((with_reducible refine below_set ?_ ?_); rotate_left; focus (first | (simp; done) | (simp; omega))))))).mono ?_; rintro e w2 ⟨rfl, hb2⟩
  have hz2 := hb2.size; (try simp at hz2); obtain ⟨hc2, hf2⟩ := bcell hb2; have hB2 := below_step (w := w) hb2 (by repeat (first | assumption | exact Below.refl _ _ | (with_reducible refine Below.drew ?_) | (with_reducible refine below_drewN' ?_ _) | (with_reducible refine below_al ?_) | ((with_reducible refine below_set ?_ ?_); rotate_left; focus (first | (simp; done) | (simp; omega)))))
  have le_w_w2 : w.heap.size ≤ w2.heap.size := by omega
  try have lt_w_w2 : w.heap.size < w2.heap.size := by omega
  have le_w1_w2 : w1.heap.size ≤ w2.heap.size := by omega
  try have lt_w1_w2 : w1.heap.size < w2.heap.size := by omega
  go_wp2_with fail
  refine (shift_c _ _ _ (hL.below (by repeat (first | assumption | exact Below.refl _ _ | (with_reducible refine Below.drew ?_) | (with_reducible refine below_drewN' ?_ _) | (with_reducible refine below_al ?_) | ((with_reducible refine below_set ?_ ?_); rotate_left; focus (first | (simp; done) | (simp; omega))))))).mono ?_; rintro e w3 ⟨rfl, hb3⟩
  have hz3 := hb3.size; (try simp at hz3); obtain ⟨hc3, hf3⟩ := bcell hb3; have hB3 := below_step (w := w) hb3 (by repeat (first | assumption | exact Below.refl _ _ | (with_reducible refine Below.drew ?_) | (with_reducible refine below_drewN' ?_ _) | (with_reducible refine below_al ?_) | ((with_reducible refine below_set ?_ ?_); rotate_left; focus (first | (simp; done) | (simp; omega)))))
  have le_w_w3 : w.heap.size ≤ w3.heap.size := by omega
  try have lt_w_w3 : w.heap.size < w3.heap.size := by omega
  have le_w1_w3 : w1.heap.size ≤ w3.heap.size := by omega
  try have lt_w1_w3 : w1.heap.size < w3.heap.size := by omega
  have le_w2_w3 : w2.heap.size ≤ w3.heap.size := by omega
  try have lt_w2_w3 : w2.heap.size < w3.heap.size := by omega
  go_wp2_with fail
  refine (shift_c _ _ _ (hL.below (by repeat (first | assumption | exact Below.refl _ _ | (with_reducible refine Below.drew ?_) | (with_reducible refine below_drewN' ?_ _) | (with_reducible refine below_al ?_) | ((with_reducible refine below_set ?_ ?_); rotate_left; focus (first | (simp; done) | (simp; omega))))))).mono ?_; rintro e w4 ⟨rfl, hb4⟩
  have hz4 := hb4.size; (try simp at hz4); obtain ⟨hc4, hf4⟩ := bcell hb4; have hB4 := below_step (w := w) hb4 (by repeat (first | assumption | exact Below.refl _ _ | (with_reducible refine Below.drew ?_) | (with_reducible refine below_drewN' ?_ _) | (with_reducible refine below_al ?_) | ((with_reducible refine below_set ?_ ?_); rotate_left; focus (first | (simp; done) | (simp; omega)))))
  have le_w_w4 : w.heap.size ≤ w4.heap.size := by omega
  try have lt_w_w4 : w.heap.size < w4.heap.size := by omega
  have le_w1_w4 : w1.heap.size ≤ w4.heap.size := by omega
  try have lt_w1_w4 : w1.heap.size < w4.heap.size := by omega
  have le_w2_w4 : w2.heap.size ≤ w4.heap.size := by omega
  try have lt_w2_w4 : w2.heap.size < w4.heap.size := by omega
  have le_w3_w4 : w3.heap.size ≤ w4.heap.size := by omega
  try have lt_w3_w4 : w3.heap.size < w4.heap.size := by omega
  go_wp2_with fail
  refine (move_c _ _ _ _ (hL.below (by repeat (first | assumption | exact Below.refl _ _ | (with_reducible refine Below.drew ?_) | (with_reducible refine below_drewN' ?_ _) | (with_reducible refine below_al ?_) | ((with_reducible refine below_set ?_ ?_); rotate_left; focus (first | (simp; done) | (simp; omega))))))).mono ?_; rintro e w5 ⟨rfl, hb5⟩
  have hz5 := hb5.size; (try simp at hz5); obtain ⟨hc5, hf5⟩ := bcell hb5; have hB5 := below_step (w := w) hb5 (by repeat (first | assumption | exact Below.refl _ _ | (with_reducible refine Below.drew ?_) | (with_reducible refine below_drewN' ?_ _) | (with_reducible refine below_al ?_) | ((with_reducible refine below_set ?_ ?_); rotate_left; focus (first | (simp; done) | (simp; omega)))))
  have le_w_w5 : w.heap.size ≤ w5.heap.size := by omega
  try have lt_w_w5 : w.heap.size < w5.heap.size := by omega
  have le_w1_w5 : w1.heap.size ≤ w5.heap.size := by omega
  try have lt_w1_w5 : w1.heap.size < w5.heap.size := by omega
  have le_w2_w5 : w2.heap.size ≤ w5.heap.size := by omega
  try have lt_w2_w5 : w2.heap.size < w5.heap.size := by omega
  have le_w3_w5 : w3.heap.size ≤ w5.heap.size := by omega
  try have lt_w3_w5 : w3.heap.size < w5.heap.size := by omega
  have le_w4_w5 : w4.heap.size ≤ w5.heap.size := by omega
  try have lt_w4_w5 : w4.heap.size < w5.heap.size := by omega
  go_wp2_with fail
  go_ret
  exact ⟨rfl, by repeat (first | assumption | exact Below.refl _ _ | (with_reducible refine Below.drew ?_) | (with_reducible refine below_drewN' ?_ _) | (with_reducible refine below_al ?_) | ((with_reducible refine below_set ?_ ?_); rotate_left; focus (first | (simp; done) | (simp; omega))))⟩
set_option maxHeartbeats 1000000 in
theorem monthsRise_f_no (n m k j : Int) (k1 : -32768 ≤ k) (k2 : k ≤ 32767) (j1 : 0 ≤ j) (j2 : j ≤ 255) (on : dayB n = true) (om : dayB m = true) (hk : Mon.okB n k = true) (hj : Mon.okB n (k + 1 + j) = false) (hm : Mon.okB m k = false) (w : World) (hL : Laid w) : Calls Tryd.prog 7 #[.agg #[.int .i64 n, .int .i64 m, .int .i16 k, .int .u8 j]] w fun e w' => e = .returned (.bool true) ∧ Below w.heap.size w w' := by
  have e0 := ok_yes hk
  have e1 := ok_no hj
  have e2 := ok_no hm
  obtain ⟨r1, r2⟩ := Mon.rise_end hk
  obtain ⟨v1, v2⟩ := Mon.V_bd (eom := false) hk
  have hB : Below w.heap.size w w := Below.refl _ _
  go_enter Tryd.func7, Tryd.ntmps7
  go_wp2_with fail
  refine (shown05_c _ (hL.below (by repeat (first | assumption | exact Below.refl _ _ | (with_reducible refine Below.drew ?_) | (with_reducible refine below_drewN' ?_ _) | (with_reducible refine below_al ?_) | ((with_reducible refine below_set ?_ ?_); rotate_left; focus (first | (simp; done) | (simp; omega))))))).mono ?_; rintro e w1 ⟨rfl, hb1⟩
  have hz1 := hb1.size; (try simp at hz1); obtain ⟨hc1, hf1⟩ := bcell hb1; have hB1 := below_step (w := w) hb1 (by repeat (first | assumption | exact Below.refl _ _ | (with_reducible refine Below.drew ?_) | (with_reducible refine below_drewN' ?_ _) | (with_reducible refine below_al ?_) | ((with_reducible refine below_set ?_ ?_); rotate_left; focus (first | (simp; done) | (simp; omega)))))
  have le_w_w1 : w.heap.size ≤ w1.heap.size := by omega
  try have lt_w_w1 : w.heap.size < w1.heap.size := by omega
  go_wp2_with fail
  refine (rday_c _ _).mono ?_; rintro e w' ⟨rfl, rfl⟩
  go_wp2_with fail
  refine (rday_c _ _).mono ?_; rintro e w' ⟨rfl, rfl⟩
  go_wp2_with fail
  refine (shift_c _ _ _ (hL.below (by repeat (first | assumption | exact Below.refl _ _ | (with_reducible refine Below.drew ?_) | (with_reducible refine below_drewN' ?_ _) | (with_reducible refine below_al ?_) | ((with_reducible refine below_set ?_ ?_); rotate_left; focus (first | (simp; done) | (simp; omega))))))).mono ?_; rintro e w2 ⟨rfl, hb2⟩
  have hz2 := hb2.size; (try simp at hz2); obtain ⟨hc2, hf2⟩ := bcell hb2; have hB2 := below_step (w := w) hb2 (by repeat (first | assumption | exact Below.refl _ _ | (with_reducible refine Below.drew ?_) | (with_reducible refine below_drewN' ?_ _) | (with_reducible refine below_al ?_) | ((with_reducible refine below_set ?_ ?_); rotate_left; focus (first | (simp; done) | (simp; omega)))))
  have le_w_w2 : w.heap.size ≤ w2.heap.size := by omega
  try have lt_w_w2 : w.heap.size < w2.heap.size := by omega
  have le_w1_w2 : w1.heap.size ≤ w2.heap.size := by omega
  try have lt_w1_w2 : w1.heap.size < w2.heap.size := by omega
  go_wp2_with fail
  refine (shift_c _ _ _ (hL.below (by repeat (first | assumption | exact Below.refl _ _ | (with_reducible refine Below.drew ?_) | (with_reducible refine below_drewN' ?_ _) | (with_reducible refine below_al ?_) | ((with_reducible refine below_set ?_ ?_); rotate_left; focus (first | (simp; done) | (simp; omega))))))).mono ?_; rintro e w3 ⟨rfl, hb3⟩
  have hz3 := hb3.size; (try simp at hz3); obtain ⟨hc3, hf3⟩ := bcell hb3; have hB3 := below_step (w := w) hb3 (by repeat (first | assumption | exact Below.refl _ _ | (with_reducible refine Below.drew ?_) | (with_reducible refine below_drewN' ?_ _) | (with_reducible refine below_al ?_) | ((with_reducible refine below_set ?_ ?_); rotate_left; focus (first | (simp; done) | (simp; omega)))))
  have le_w_w3 : w.heap.size ≤ w3.heap.size := by omega
  try have lt_w_w3 : w.heap.size < w3.heap.size := by omega
  have le_w1_w3 : w1.heap.size ≤ w3.heap.size := by omega
  try have lt_w1_w3 : w1.heap.size < w3.heap.size := by omega
  have le_w2_w3 : w2.heap.size ≤ w3.heap.size := by omega
  try have lt_w2_w3 : w2.heap.size < w3.heap.size := by omega
  go_wp2_with fail
  refine (shift_c _ _ _ (hL.below (by repeat (first | assumption | exact Below.refl _ _ | (with_reducible refine Below.drew ?_) | (with_reducible refine below_drewN' ?_ _) | (with_reducible refine below_al ?_) | ((with_reducible refine below_set ?_ ?_); rotate_left; focus (first | (simp; done) | (simp; omega))))))).mono ?_; rintro e w4 ⟨rfl, hb4⟩
  have hz4 := hb4.size; (try simp at hz4); obtain ⟨hc4, hf4⟩ := bcell hb4; have hB4 := below_step (w := w) hb4 (by repeat (first | assumption | exact Below.refl _ _ | (with_reducible refine Below.drew ?_) | (with_reducible refine below_drewN' ?_ _) | (with_reducible refine below_al ?_) | ((with_reducible refine below_set ?_ ?_); rotate_left; focus (first | (simp; done) | (simp; omega)))))
  have le_w_w4 : w.heap.size ≤ w4.heap.size := by omega
  try have lt_w_w4 : w.heap.size < w4.heap.size := by omega
  have le_w1_w4 : w1.heap.size ≤ w4.heap.size := by omega
  try have lt_w1_w4 : w1.heap.size < w4.heap.size := by omega
  have le_w2_w4 : w2.heap.size ≤ w4.heap.size := by omega
  try have lt_w2_w4 : w2.heap.size < w4.heap.size := by omega
  have le_w3_w4 : w3.heap.size ≤ w4.heap.size := by omega
  try have lt_w3_w4 : w3.heap.size < w4.heap.size := by omega
  go_wp2_with fail
  refine (move_c _ _ _ _ (hL.below (by repeat (first | assumption | exact Below.refl _ _ | (with_reducible refine Below.drew ?_) | (with_reducible refine below_drewN' ?_ _) | (with_reducible refine below_al ?_) | ((with_reducible refine below_set ?_ ?_); rotate_left; focus (first | (simp; done) | (simp; omega))))))).mono ?_; rintro e w5 ⟨rfl, hb5⟩
  have hz5 := hb5.size; (try simp at hz5); obtain ⟨hc5, hf5⟩ := bcell hb5; have hB5 := below_step (w := w) hb5 (by repeat (first | assumption | exact Below.refl _ _ | (with_reducible refine Below.drew ?_) | (with_reducible refine below_drewN' ?_ _) | (with_reducible refine below_al ?_) | ((with_reducible refine below_set ?_ ?_); rotate_left; focus (first | (simp; done) | (simp; omega)))))
  have le_w_w5 : w.heap.size ≤ w5.heap.size := by omega
  try have lt_w_w5 : w.heap.size < w5.heap.size := by omega
  have le_w1_w5 : w1.heap.size ≤ w5.heap.size := by omega
  try have lt_w1_w5 : w1.heap.size < w5.heap.size := by omega
  have le_w2_w5 : w2.heap.size ≤ w5.heap.size := by omega
  try have lt_w2_w5 : w2.heap.size < w5.heap.size := by omega
  have le_w3_w5 : w3.heap.size ≤ w5.heap.size := by omega
  try have lt_w3_w5 : w3.heap.size < w5.heap.size := by omega
  have le_w4_w5 : w4.heap.size ≤ w5.heap.size := by omega
  try have lt_w4_w5 : w4.heap.size < w5.heap.size := by omega
  go_wp2_with fail
  go_ret
  exact ⟨rfl, by repeat (first | assumption | exact Below.refl _ _ | (with_reducible refine Below.drew ?_) | (with_reducible refine below_drewN' ?_ _) | (with_reducible refine below_al ?_) | ((with_reducible refine below_set ?_ ?_); rotate_left; focus (first | (simp; done) | (simp; omega))))⟩
set_option maxHeartbeats 1000000 in
theorem monthsRise_f_lt (n m k j : Int) (k1 : -32768 ≤ k) (k2 : k ≤ 32767) (j1 : 0 ≤ j) (j2 : j ≤ 255) (on : dayB n = true) (om : dayB m = true) (hk : Mon.okB n k = true) (hj : Mon.okB n (k + 1 + j) = false) (hm : Mon.okB m k = true) (c : m < n) (w : World) (hL : Laid w) : Calls Tryd.prog 7 #[.agg #[.int .i64 n, .int .i64 m, .int .i16 k, .int .u8 j]] w fun e w' => e = .returned (.bool true) ∧ Below w.heap.size w w' := by
  have e0 := ok_yes hk
  have e1 := ok_no hj
  have e2 := ok_yes hm
  obtain ⟨r1, r2⟩ := Mon.rise_end hk
  obtain ⟨v1, v2⟩ := Mon.V_bd (eom := false) hk
  have hB : Below w.heap.size w w := Below.refl _ _
  go_enter Tryd.func7, Tryd.ntmps7
  go_wp2_with fail
  refine (shown05_c _ (hL.below (by repeat (first | assumption | exact Below.refl _ _ | (with_reducible refine Below.drew ?_) | (with_reducible refine below_drewN' ?_ _) | (with_reducible refine below_al ?_) | ((with_reducible refine below_set ?_ ?_); rotate_left; focus (first | (simp; done) | (simp; omega))))))).mono ?_; rintro e w1 ⟨rfl, hb1⟩
  have hz1 := hb1.size; (try simp at hz1); obtain ⟨hc1, hf1⟩ := bcell hb1; have hB1 := below_step (w := w) hb1 (by repeat (first | assumption | exact Below.refl _ _ | (with_reducible refine Below.drew ?_) | (with_reducible refine below_drewN' ?_ _) | (with_reducible refine below_al ?_) | ((with_reducible refine below_set ?_ ?_); rotate_left; focus (first | (simp; done) | (simp; omega)))))
  have le_w_w1 : w.heap.size ≤ w1.heap.size := by omega
  try have lt_w_w1 : w.heap.size < w1.heap.size := by omega
  go_wp2_with fail
  refine (rday_c _ _).mono ?_; rintro e w' ⟨rfl, rfl⟩
  go_wp2_with fail
  refine (rday_c _ _).mono ?_; rintro e w' ⟨rfl, rfl⟩
  go_wp2_with fail
  refine (shift_c _ _ _ (hL.below (by repeat (first | assumption | exact Below.refl _ _ | (with_reducible refine Below.drew ?_) | (with_reducible refine below_drewN' ?_ _) | (with_reducible refine below_al ?_) | ((with_reducible refine below_set ?_ ?_); rotate_left; focus (first | (simp; done) | (simp; omega))))))).mono ?_; rintro e w2 ⟨rfl, hb2⟩
  have hz2 := hb2.size; (try simp at hz2); obtain ⟨hc2, hf2⟩ := bcell hb2; have hB2 := below_step (w := w) hb2 (by repeat (first | assumption | exact Below.refl _ _ | (with_reducible refine Below.drew ?_) | (with_reducible refine below_drewN' ?_ _) | (with_reducible refine below_al ?_) | ((with_reducible refine below_set ?_ ?_); rotate_left; focus (first | (simp; done) | (simp; omega)))))
  have le_w_w2 : w.heap.size ≤ w2.heap.size := by omega
  try have lt_w_w2 : w.heap.size < w2.heap.size := by omega
  have le_w1_w2 : w1.heap.size ≤ w2.heap.size := by omega
  try have lt_w1_w2 : w1.heap.size < w2.heap.size := by omega
  go_wp2_with fail
  refine (shift_c _ _ _ (hL.below (by repeat (first | assumption | exact Below.refl _ _ | (with_reducible refine Below.drew ?_) | (with_reducible refine below_drewN' ?_ _) | (with_reducible refine below_al ?_) | ((with_reducible refine below_set ?_ ?_); rotate_left; focus (first | (simp; done) | (simp; omega))))))).mono ?_; rintro e w3 ⟨rfl, hb3⟩
  have hz3 := hb3.size; (try simp at hz3); obtain ⟨hc3, hf3⟩ := bcell hb3; have hB3 := below_step (w := w) hb3 (by repeat (first | assumption | exact Below.refl _ _ | (with_reducible refine Below.drew ?_) | (with_reducible refine below_drewN' ?_ _) | (with_reducible refine below_al ?_) | ((with_reducible refine below_set ?_ ?_); rotate_left; focus (first | (simp; done) | (simp; omega)))))
  have le_w_w3 : w.heap.size ≤ w3.heap.size := by omega
  try have lt_w_w3 : w.heap.size < w3.heap.size := by omega
  have le_w1_w3 : w1.heap.size ≤ w3.heap.size := by omega
  try have lt_w1_w3 : w1.heap.size < w3.heap.size := by omega
  have le_w2_w3 : w2.heap.size ≤ w3.heap.size := by omega
  try have lt_w2_w3 : w2.heap.size < w3.heap.size := by omega
  go_wp2_with fail
  refine (shift_c _ _ _ (hL.below (by repeat (first | assumption | exact Below.refl _ _ | (with_reducible refine Below.drew ?_) | (with_reducible refine below_drewN' ?_ _) | (with_reducible refine below_al ?_) | ((with_reducible refine below_set ?_ ?_); rotate_left; focus (first | (simp; done) | (simp; omega))))))).mono ?_; rintro e w4 ⟨rfl, hb4⟩
  have hz4 := hb4.size; (try simp at hz4); obtain ⟨hc4, hf4⟩ := bcell hb4; have hB4 := below_step (w := w) hb4 (by repeat (first | assumption | exact Below.refl _ _ | (with_reducible refine Below.drew ?_) | (with_reducible refine below_drewN' ?_ _) | (with_reducible refine below_al ?_) | ((with_reducible refine below_set ?_ ?_); rotate_left; focus (first | (simp; done) | (simp; omega)))))
  have le_w_w4 : w.heap.size ≤ w4.heap.size := by omega
  try have lt_w_w4 : w.heap.size < w4.heap.size := by omega
  have le_w1_w4 : w1.heap.size ≤ w4.heap.size := by omega
  try have lt_w1_w4 : w1.heap.size < w4.heap.size := by omega
  have le_w2_w4 : w2.heap.size ≤ w4.heap.size := by omega
  try have lt_w2_w4 : w2.heap.size < w4.heap.size := by omega
  have le_w3_w4 : w3.heap.size ≤ w4.heap.size := by omega
  try have lt_w3_w4 : w3.heap.size < w4.heap.size := by omega
  go_wp2_with fail
  refine (move_c _ _ _ _ (hL.below (by repeat (first | assumption | exact Below.refl _ _ | (with_reducible refine Below.drew ?_) | (with_reducible refine below_drewN' ?_ _) | (with_reducible refine below_al ?_) | ((with_reducible refine below_set ?_ ?_); rotate_left; focus (first | (simp; done) | (simp; omega))))))).mono ?_; rintro e w5 ⟨rfl, hb5⟩
  have hz5 := hb5.size; (try simp at hz5); obtain ⟨hc5, hf5⟩ := bcell hb5; have hB5 := below_step (w := w) hb5 (by repeat (first | assumption | exact Below.refl _ _ | (with_reducible refine Below.drew ?_) | (with_reducible refine below_drewN' ?_ _) | (with_reducible refine below_al ?_) | ((with_reducible refine below_set ?_ ?_); rotate_left; focus (first | (simp; done) | (simp; omega)))))
  have le_w_w5 : w.heap.size ≤ w5.heap.size := by omega
  try have lt_w_w5 : w.heap.size < w5.heap.size := by omega
  have le_w1_w5 : w1.heap.size ≤ w5.heap.size := by omega
  try have lt_w1_w5 : w1.heap.size < w5.heap.size := by omega
  have le_w2_w5 : w2.heap.size ≤ w5.heap.size := by omega
  try have lt_w2_w5 : w2.heap.size < w5.heap.size := by omega
  have le_w3_w5 : w3.heap.size ≤ w5.heap.size := by omega
  try have lt_w3_w5 : w3.heap.size < w5.heap.size := by omega
  have le_w4_w5 : w4.heap.size ≤ w5.heap.size := by omega
  try have lt_w4_w5 : w4.heap.size < w5.heap.size := by omega
  go_wp2_with fail
  go_ret
  exact ⟨rfl, by repeat (first | assumption | exact Below.refl _ _ | (with_reducible refine Below.drew ?_) | (with_reducible refine below_drewN' ?_ _) | (with_reducible refine below_al ?_) | ((with_reducible refine below_set ?_ ?_); rotate_left; focus (first | (simp; done) | (simp; omega))))⟩
set_option maxHeartbeats 1000000 in
theorem monthsRise_f_le (n m k j : Int) (k1 : -32768 ≤ k) (k2 : k ≤ 32767) (j1 : 0 ≤ j) (j2 : j ≤ 255) (on : dayB n = true) (om : dayB m = true) (hk : Mon.okB n k = true) (hj : Mon.okB n (k + 1 + j) = false) (hm : Mon.okB m k = true) (c : n ≤ m) (w : World) (hL : Laid w) : Calls Tryd.prog 7 #[.agg #[.int .i64 n, .int .i64 m, .int .i16 k, .int .u8 j]] w fun e w' => e = .returned (.bool true) ∧ Below w.heap.size w w' := by
  have e0 := ok_yes hk
  have e1 := ok_no hj
  have e2 := ok_yes hm
  obtain ⟨r1, r2⟩ := Mon.rise_end hk
  obtain ⟨v1, v2⟩ := Mon.V_bd (eom := false) hk
  have r4 := Mon.rise_day hk hm c
  have hB : Below w.heap.size w w := Below.refl _ _
  go_enter Tryd.func7, Tryd.ntmps7
  go_wp2_with fail
  refine (shown05_c _ (hL.below (by repeat (first | assumption | exact Below.refl _ _ | (with_reducible refine Below.drew ?_) | (with_reducible refine below_drewN' ?_ _) | (with_reducible refine below_al ?_) | ((with_reducible refine below_set ?_ ?_); rotate_left; focus (first | (simp; done) | (simp; omega))))))).mono ?_; rintro e w1 ⟨rfl, hb1⟩
  have hz1 := hb1.size; (try simp at hz1); obtain ⟨hc1, hf1⟩ := bcell hb1; have hB1 := below_step (w := w) hb1 (by repeat (first | assumption | exact Below.refl _ _ | (with_reducible refine Below.drew ?_) | (with_reducible refine below_drewN' ?_ _) | (with_reducible refine below_al ?_) | ((with_reducible refine below_set ?_ ?_); rotate_left; focus (first | (simp; done) | (simp; omega)))))
  have le_w_w1 : w.heap.size ≤ w1.heap.size := by omega
  try have lt_w_w1 : w.heap.size < w1.heap.size := by omega
  go_wp2_with fail
  refine (rday_c _ _).mono ?_; rintro e w' ⟨rfl, rfl⟩
  go_wp2_with fail
  refine (rday_c _ _).mono ?_; rintro e w' ⟨rfl, rfl⟩
  go_wp2_with fail
  refine (shift_c _ _ _ (hL.below (by repeat (first | assumption | exact Below.refl _ _ | (with_reducible refine Below.drew ?_) | (with_reducible refine below_drewN' ?_ _) | (with_reducible refine below_al ?_) | ((with_reducible refine below_set ?_ ?_); rotate_left; focus (first | (simp; done) | (simp; omega))))))).mono ?_; rintro e w2 ⟨rfl, hb2⟩
  have hz2 := hb2.size; (try simp at hz2); obtain ⟨hc2, hf2⟩ := bcell hb2; have hB2 := below_step (w := w) hb2 (by repeat (first | assumption | exact Below.refl _ _ | (with_reducible refine Below.drew ?_) | (with_reducible refine below_drewN' ?_ _) | (with_reducible refine below_al ?_) | ((with_reducible refine below_set ?_ ?_); rotate_left; focus (first | (simp; done) | (simp; omega)))))
  have le_w_w2 : w.heap.size ≤ w2.heap.size := by omega
  try have lt_w_w2 : w.heap.size < w2.heap.size := by omega
  have le_w1_w2 : w1.heap.size ≤ w2.heap.size := by omega
  try have lt_w1_w2 : w1.heap.size < w2.heap.size := by omega
  go_wp2_with fail
  refine (shift_c _ _ _ (hL.below (by repeat (first | assumption | exact Below.refl _ _ | (with_reducible refine Below.drew ?_) | (with_reducible refine below_drewN' ?_ _) | (with_reducible refine below_al ?_) | ((with_reducible refine below_set ?_ ?_); rotate_left; focus (first | (simp; done) | (simp; omega))))))).mono ?_; rintro e w3 ⟨rfl, hb3⟩
  have hz3 := hb3.size; (try simp at hz3); obtain ⟨hc3, hf3⟩ := bcell hb3; have hB3 := below_step (w := w) hb3 (by repeat (first | assumption | exact Below.refl _ _ | (with_reducible refine Below.drew ?_) | (with_reducible refine below_drewN' ?_ _) | (with_reducible refine below_al ?_) | ((with_reducible refine below_set ?_ ?_); rotate_left; focus (first | (simp; done) | (simp; omega)))))
  have le_w_w3 : w.heap.size ≤ w3.heap.size := by omega
  try have lt_w_w3 : w.heap.size < w3.heap.size := by omega
  have le_w1_w3 : w1.heap.size ≤ w3.heap.size := by omega
  try have lt_w1_w3 : w1.heap.size < w3.heap.size := by omega
  have le_w2_w3 : w2.heap.size ≤ w3.heap.size := by omega
  try have lt_w2_w3 : w2.heap.size < w3.heap.size := by omega
  go_wp2_with fail
  refine (shift_c _ _ _ (hL.below (by repeat (first | assumption | exact Below.refl _ _ | (with_reducible refine Below.drew ?_) | (with_reducible refine below_drewN' ?_ _) | (with_reducible refine below_al ?_) | ((with_reducible refine below_set ?_ ?_); rotate_left; focus (first | (simp; done) | (simp; omega))))))).mono ?_; rintro e w4 ⟨rfl, hb4⟩
  have hz4 := hb4.size; (try simp at hz4); obtain ⟨hc4, hf4⟩ := bcell hb4; have hB4 := below_step (w := w) hb4 (by repeat (first | assumption | exact Below.refl _ _ | (with_reducible refine Below.drew ?_) | (with_reducible refine below_drewN' ?_ _) | (with_reducible refine below_al ?_) | ((with_reducible refine below_set ?_ ?_); rotate_left; focus (first | (simp; done) | (simp; omega)))))
  have le_w_w4 : w.heap.size ≤ w4.heap.size := by omega
  try have lt_w_w4 : w.heap.size < w4.heap.size := by omega
  have le_w1_w4 : w1.heap.size ≤ w4.heap.size := by omega
  try have lt_w1_w4 : w1.heap.size < w4.heap.size := by omega
  have le_w2_w4 : w2.heap.size ≤ w4.heap.size := by omega
  try have lt_w2_w4 : w2.heap.size < w4.heap.size := by omega
  have le_w3_w4 : w3.heap.size ≤ w4.heap.size := by omega
  try have lt_w3_w4 : w3.heap.size < w4.heap.size := by omega
  go_wp2_with fail
  refine (move_c _ _ _ _ (hL.below (by repeat (first | assumption | exact Below.refl _ _ | (with_reducible refine Below.drew ?_) | (with_reducible refine below_drewN' ?_ _) | (with_reducible refine below_al ?_) | ((with_reducible refine below_set ?_ ?_); rotate_left; focus (first | (simp; done) | (simp; omega))))))).mono ?_; rintro e w5 ⟨rfl, hb5⟩
  have hz5 := hb5.size; (try simp at hz5); obtain ⟨hc5, hf5⟩ := bcell hb5; have hB5 := below_step (w := w) hb5 (by repeat (first | assumption | exact Below.refl _ _ | (with_reducible refine Below.drew ?_) | (with_reducible refine below_drewN' ?_ _) | (with_reducible refine below_al ?_) | ((with_reducible refine below_set ?_ ?_); rotate_left; focus (first | (simp; done) | (simp; omega)))))
  have le_w_w5 : w.heap.size ≤ w5.heap.size := by omega
  try have lt_w_w5 : w.heap.size < w5.heap.size := by omega
  have le_w1_w5 : w1.heap.size ≤ w5.heap.size := by omega
  try have lt_w1_w5 : w1.heap.size < w5.heap.size := by omega
  have le_w2_w5 : w2.heap.size ≤ w5.heap.size := by omega
  try have lt_w2_w5 : w2.heap.size < w5.heap.size := by omega
  have le_w3_w5 : w3.heap.size ≤ w5.heap.size := by omega
  try have lt_w3_w5 : w3.heap.size < w5.heap.size := by omega
  have le_w4_w5 : w4.heap.size ≤ w5.heap.size := by omega
  try have lt_w4_w5 : w4.heap.size < w5.heap.size := by omega
  go_wp2_with fail
  go_ret
  exact ⟨rfl, by repeat (first | assumption | exact Below.refl _ _ | (with_reducible refine Below.drew ?_) | (with_reducible refine below_drewN' ?_ _) | (with_reducible refine below_al ?_) | ((with_reducible refine below_set ?_ ?_); rotate_left; focus (first | (simp; done) | (simp; omega))))⟩
theorem monthsRise_walk (n m k j : Int) (k1 : -32768 ≤ k) (k2 : k ≤ 32767) (j1 : 0 ≤ j) (j2 : j ≤ 255) (w : World) (hL : Laid w) : Calls Tryd.prog 7 #[.agg #[.int .i64 n, .int .i64 m, .int .i16 k, .int .u8 j]] w fun e w' => e = .returned (.bool true) ∧ Below w.heap.size w w' := by
  by_cases h : 1 ≤ n ∧ n ≤ 3652059
  · have on := dayB_in h.1 h.2
    by_cases h' : 1 ≤ m ∧ m ≤ 3652059
    · have om := dayB_in h'.1 h'.2
      cases hk : Mon.okB n k
      · exact monthsRise_no n m k j k1 k2 j1 j2 on om hk w hL
      · cases hj : Mon.okB n (k + 1 + j)
        · cases hm : Mon.okB m k
          · exact monthsRise_f_no n m k j k1 k2 j1 j2 on om hk hj hm w hL
          · by_cases c : n ≤ m
            · exact monthsRise_f_le n m k j k1 k2 j1 j2 on om hk hj hm c w hL
            · exact monthsRise_f_lt n m k j k1 k2 j1 j2 on om hk hj hm (by omega) w hL
        · cases hm : Mon.okB m k
          · exact monthsRise_t_no n m k j k1 k2 j1 j2 on om hk hj hm w hL
          · by_cases c : n ≤ m
            · exact monthsRise_t_le n m k j k1 k2 j1 j2 on om hk hj hm c w hL
            · exact monthsRise_t_lt n m k j k1 k2 j1 j2 on om hk hj hm (by omega) w hL
    · exact monthsRise_out2 n m k j k1 k2 j1 j2 on (show _ ∨ _ by omega) w hL
  · exact monthsRise_out n m k j k1 k2 j1 j2 (show _ ∨ _ by omega) w hL

set_option maxHeartbeats 1000000 in
theorem monthsEras_out (n k : Int) (k1 : -32768 ≤ k) (k2 : k ≤ 32767) (h : Hid (n < 1 ∨ 3652059 < n)) (w : World) (hL : Laid w) : Calls Tryd.prog 8 #[.int .i64 n, .int .i16 k] w fun e w' => e = .returned (.bool true) ∧ Below w.heap.size w w' := by
  have od := dayB_out h.out
  have hB : Below w.heap.size w w := Below.refl _ _
  go_enter Tryd.func8, Tryd.ntmps8
  go_wp2_with fail
  refine (shown05_c _ (hL.below (by repeat (first | assumption | exact Below.refl _ _ | (with_reducible refine Below.drew ?_) | (with_reducible refine below_drewN' ?_ _) | (with_reducible refine below_al ?_) | ((with_reducible refine below_set ?_ ?_); rotate_left; focus (first | (simp; done) | (simp; omega))))))).mono ?_; rintro e w1 ⟨rfl, hb1⟩
  have hz1 := hb1.size; (try simp at hz1); obtain ⟨hc1, hf1⟩ := bcell hb1; have hB1 := below_step (w := w) hb1 (by repeat (first | assumption | exact Below.refl _ _ | (with_reducible refine Below.drew ?_) | (with_reducible refine below_drewN' ?_ _) | (with_reducible refine below_al ?_) | ((with_reducible refine below_set ?_ ?_); rotate_left; focus (first | (simp; done) | (simp; omega)))))
  have le_w_w1 : w.heap.size ≤ w1.heap.size := by omega
  try have lt_w_w1 : w.heap.size < w1.heap.size := by omega
  go_wp2_with fail
  refine (rday_c _ _).mono ?_; rintro e w' ⟨rfl, rfl⟩
  go_wp2_with fail
  go_ret
  exact ⟨rfl, by repeat (first | assumption | exact Below.refl _ _ | (with_reducible refine Below.drew ?_) | (with_reducible refine below_drewN' ?_ _) | (with_reducible refine below_al ?_) | ((with_reducible refine below_set ?_ ?_); rotate_left; focus (first | (simp; done) | (simp; omega))))⟩
set_option maxHeartbeats 1000000 in
theorem monthsEras_t_no_t (n k : Int) (k1 : -32768 ≤ k) (k2 : k ≤ 32767) (h1 : 1 ≤ n) (h2 : n ≤ 3652059) (he : Mon.okB n 4800 = true) (hy : Mon.okB n 12 = false) (hz : Mon.okB (Mon.endV n) k = true) (w : World) (hL : Laid w) : Calls Tryd.prog 8 #[.int .i64 n, .int .i16 k] w fun e w' => e = .returned (.bool true) ∧ Below w.heap.size w w' := by
  obtain ⟨o1, o2, o3, o4⟩ := of_in h1 h2
  have od := dayB_in h1 h2
  have A := Cal.day_of n h1 h2
  have y1 := A.y1; have y2 := A.y2
  clear A
  have e0 := ok_yes he
  have ev := Mon.era_V n h1 h2 he
  have el : n + 146097 ≤ 3652059 := by
    have q := Mon.era_ok n h1 h2; rw [he] at q; exact of_decide_eq_true q.symm
  have e1 := ok_no hy
  have e2 := ok_yes hz
  have ez := Mon.end_move h1 h2 hz
  have hB : Below w.heap.size w w := Below.refl _ _
  go_enter Tryd.func8, Tryd.ntmps8
  go_wp2_with fail
  refine (shown05_c _ (hL.below (by repeat (first | assumption | exact Below.refl _ _ | (with_reducible refine Below.drew ?_) | (with_reducible refine below_drewN' ?_ _) | (with_reducible refine below_al ?_) | ((with_reducible refine below_set ?_ ?_); rotate_left; focus (first | (simp; done) | (simp; omega))))))).mono ?_; rintro e w1 ⟨rfl, hb1⟩
  have hz1 := hb1.size; (try simp at hz1); obtain ⟨hc1, hf1⟩ := bcell hb1; have hB1 := below_step (w := w) hb1 (by repeat (first | assumption | exact Below.refl _ _ | (with_reducible refine Below.drew ?_) | (with_reducible refine below_drewN' ?_ _) | (with_reducible refine below_al ?_) | ((with_reducible refine below_set ?_ ?_); rotate_left; focus (first | (simp; done) | (simp; omega)))))
  have le_w_w1 : w.heap.size ≤ w1.heap.size := by omega
  try have lt_w_w1 : w.heap.size < w1.heap.size := by omega
  go_wp2_with fail
  refine (rday_c _ _).mono ?_; rintro e w' ⟨rfl, rfl⟩
  go_wp2_with fail
  refine (shift_c _ _ _ (hL.below (by repeat (first | assumption | exact Below.refl _ _ | (with_reducible refine Below.drew ?_) | (with_reducible refine below_drewN' ?_ _) | (with_reducible refine below_al ?_) | ((with_reducible refine below_set ?_ ?_); rotate_left; focus (first | (simp; done) | (simp; omega))))))).mono ?_; rintro e w2 ⟨rfl, hb2⟩
  have hz2 := hb2.size; (try simp at hz2); obtain ⟨hc2, hf2⟩ := bcell hb2; have hB2 := below_step (w := w) hb2 (by repeat (first | assumption | exact Below.refl _ _ | (with_reducible refine Below.drew ?_) | (with_reducible refine below_drewN' ?_ _) | (with_reducible refine below_al ?_) | ((with_reducible refine below_set ?_ ?_); rotate_left; focus (first | (simp; done) | (simp; omega)))))
  have le_w_w2 : w.heap.size ≤ w2.heap.size := by omega
  try have lt_w_w2 : w.heap.size < w2.heap.size := by omega
  have le_w1_w2 : w1.heap.size ≤ w2.heap.size := by omega
  try have lt_w1_w2 : w1.heap.size < w2.heap.size := by omega
  go_wp2_with fail
  refine (shift_c _ _ _ (hL.below (by repeat (first | assumption | exact Below.refl _ _ | (with_reducible refine Below.drew ?_) | (with_reducible refine below_drewN' ?_ _) | (with_reducible refine below_al ?_) | ((with_reducible refine below_set ?_ ?_); rotate_left; focus (first | (simp; done) | (simp; omega))))))).mono ?_; rintro e w3 ⟨rfl, hb3⟩
  have hz3 := hb3.size; (try simp at hz3); obtain ⟨hc3, hf3⟩ := bcell hb3; have hB3 := below_step (w := w) hb3 (by repeat (first | assumption | exact Below.refl _ _ | (with_reducible refine Below.drew ?_) | (with_reducible refine below_drewN' ?_ _) | (with_reducible refine below_al ?_) | ((with_reducible refine below_set ?_ ?_); rotate_left; focus (first | (simp; done) | (simp; omega)))))
  have le_w_w3 : w.heap.size ≤ w3.heap.size := by omega
  try have lt_w_w3 : w.heap.size < w3.heap.size := by omega
  have le_w1_w3 : w1.heap.size ≤ w3.heap.size := by omega
  try have lt_w1_w3 : w1.heap.size < w3.heap.size := by omega
  have le_w2_w3 : w2.heap.size ≤ w3.heap.size := by omega
  try have lt_w2_w3 : w2.heap.size < w3.heap.size := by omega
  go_wp2_with fail
  refine (rof_c _ _).mono ?_; rintro e w4 ⟨rfl, hb4⟩
  have hz4 := hb4.size; (try simp at hz4); obtain ⟨hc4, hf4⟩ := bcell hb4; have hB4 := below_step (w := w) hb4 (by repeat (first | assumption | exact Below.refl _ _ | (with_reducible refine Below.drew ?_) | (with_reducible refine below_drewN' ?_ _) | (with_reducible refine below_al ?_) | ((with_reducible refine below_set ?_ ?_); rotate_left; focus (first | (simp; done) | (simp; omega)))))
  have le_w_w4 : w.heap.size ≤ w4.heap.size := by omega
  try have lt_w_w4 : w.heap.size < w4.heap.size := by omega
  have le_w1_w4 : w1.heap.size ≤ w4.heap.size := by omega
  try have lt_w1_w4 : w1.heap.size < w4.heap.size := by omega
  have le_w2_w4 : w2.heap.size ≤ w4.heap.size := by omega
  try have lt_w2_w4 : w2.heap.size < w4.heap.size := by omega
  have le_w3_w4 : w3.heap.size ≤ w4.heap.size := by omega
  try have lt_w3_w4 : w3.heap.size < w4.heap.size := by omega
  go_wp2_with fail
  refine (rend_c _ _).mono ?_; rintro e w5 ⟨rfl, hb5⟩
  have hz5 := hb5.size; (try simp at hz5); obtain ⟨hc5, hf5⟩ := bcell hb5; have hB5 := below_step (w := w) hb5 (by repeat (first | assumption | exact Below.refl _ _ | (with_reducible refine Below.drew ?_) | (with_reducible refine below_drewN' ?_ _) | (with_reducible refine below_al ?_) | ((with_reducible refine below_set ?_ ?_); rotate_left; focus (first | (simp; done) | (simp; omega)))))
  have le_w_w5 : w.heap.size ≤ w5.heap.size := by omega
  try have lt_w_w5 : w.heap.size < w5.heap.size := by omega
  have le_w1_w5 : w1.heap.size ≤ w5.heap.size := by omega
  try have lt_w1_w5 : w1.heap.size < w5.heap.size := by omega
  have le_w2_w5 : w2.heap.size ≤ w5.heap.size := by omega
  try have lt_w2_w5 : w2.heap.size < w5.heap.size := by omega
  have le_w3_w5 : w3.heap.size ≤ w5.heap.size := by omega
  try have lt_w3_w5 : w3.heap.size < w5.heap.size := by omega
  have le_w4_w5 : w4.heap.size ≤ w5.heap.size := by omega
  try have lt_w4_w5 : w4.heap.size < w5.heap.size := by omega
  go_wp2_with fail
  refine (move_c _ _ _ _ (hL.below (by repeat (first | assumption | exact Below.refl _ _ | (with_reducible refine Below.drew ?_) | (with_reducible refine below_drewN' ?_ _) | (with_reducible refine below_al ?_) | ((with_reducible refine below_set ?_ ?_); rotate_left; focus (first | (simp; done) | (simp; omega))))))).mono ?_; rintro e w6 ⟨rfl, hb6⟩
  have hz6 := hb6.size; (try simp at hz6); obtain ⟨hc6, hf6⟩ := bcell hb6; have hB6 := below_step (w := w) hb6 (by repeat (first | assumption | exact Below.refl _ _ | (with_reducible refine Below.drew ?_) | (with_reducible refine below_drewN' ?_ _) | (with_reducible refine below_al ?_) | ((with_reducible refine below_set ?_ ?_); rotate_left; focus (first | (simp; done) | (simp; omega)))))
  have le_w_w6 : w.heap.size ≤ w6.heap.size := by omega
  try have lt_w_w6 : w.heap.size < w6.heap.size := by omega
  have le_w1_w6 : w1.heap.size ≤ w6.heap.size := by omega
  try have lt_w1_w6 : w1.heap.size < w6.heap.size := by omega
  have le_w2_w6 : w2.heap.size ≤ w6.heap.size := by omega
  try have lt_w2_w6 : w2.heap.size < w6.heap.size := by omega
  have le_w3_w6 : w3.heap.size ≤ w6.heap.size := by omega
  try have lt_w3_w6 : w3.heap.size < w6.heap.size := by omega
  have le_w4_w6 : w4.heap.size ≤ w6.heap.size := by omega
  try have lt_w4_w6 : w4.heap.size < w6.heap.size := by omega
  have le_w5_w6 : w5.heap.size ≤ w6.heap.size := by omega
  try have lt_w5_w6 : w5.heap.size < w6.heap.size := by omega
  go_wp2_with fail
  refine (last_c _ _ (hL.below (by repeat (first | assumption | exact Below.refl _ _ | (with_reducible refine Below.drew ?_) | (with_reducible refine below_drewN' ?_ _) | (with_reducible refine below_al ?_) | ((with_reducible refine below_set ?_ ?_); rotate_left; focus (first | (simp; done) | (simp; omega))))))).mono ?_; rintro e w7 ⟨rfl, hb7⟩
  have hz7 := hb7.size; (try simp at hz7); obtain ⟨hc7, hf7⟩ := bcell hb7; have hB7 := below_step (w := w) hb7 (by repeat (first | assumption | exact Below.refl _ _ | (with_reducible refine Below.drew ?_) | (with_reducible refine below_drewN' ?_ _) | (with_reducible refine below_al ?_) | ((with_reducible refine below_set ?_ ?_); rotate_left; focus (first | (simp; done) | (simp; omega)))))
  have le_w_w7 : w.heap.size ≤ w7.heap.size := by omega
  try have lt_w_w7 : w.heap.size < w7.heap.size := by omega
  have le_w1_w7 : w1.heap.size ≤ w7.heap.size := by omega
  try have lt_w1_w7 : w1.heap.size < w7.heap.size := by omega
  have le_w2_w7 : w2.heap.size ≤ w7.heap.size := by omega
  try have lt_w2_w7 : w2.heap.size < w7.heap.size := by omega
  have le_w3_w7 : w3.heap.size ≤ w7.heap.size := by omega
  try have lt_w3_w7 : w3.heap.size < w7.heap.size := by omega
  have le_w4_w7 : w4.heap.size ≤ w7.heap.size := by omega
  try have lt_w4_w7 : w4.heap.size < w7.heap.size := by omega
  have le_w5_w7 : w5.heap.size ≤ w7.heap.size := by omega
  try have lt_w5_w7 : w5.heap.size < w7.heap.size := by omega
  have le_w6_w7 : w6.heap.size ≤ w7.heap.size := by omega
  try have lt_w6_w7 : w6.heap.size < w7.heap.size := by omega
  go_wp2_with fail
  go_ret
  exact ⟨rfl, by repeat (first | assumption | exact Below.refl _ _ | (with_reducible refine Below.drew ?_) | (with_reducible refine below_drewN' ?_ _) | (with_reducible refine below_al ?_) | ((with_reducible refine below_set ?_ ?_); rotate_left; focus (first | (simp; done) | (simp; omega))))⟩
set_option maxHeartbeats 1000000 in
theorem monthsEras_t_no_f (n k : Int) (k1 : -32768 ≤ k) (k2 : k ≤ 32767) (h1 : 1 ≤ n) (h2 : n ≤ 3652059) (he : Mon.okB n 4800 = true) (hy : Mon.okB n 12 = false) (hz : Mon.okB (Mon.endV n) k = false) (w : World) (hL : Laid w) : Calls Tryd.prog 8 #[.int .i64 n, .int .i16 k] w fun e w' => e = .returned (.bool true) ∧ Below w.heap.size w w' := by
  obtain ⟨o1, o2, o3, o4⟩ := of_in h1 h2
  have od := dayB_in h1 h2
  have A := Cal.day_of n h1 h2
  have y1 := A.y1; have y2 := A.y2
  clear A
  have e0 := ok_yes he
  have ev := Mon.era_V n h1 h2 he
  have el : n + 146097 ≤ 3652059 := by
    have q := Mon.era_ok n h1 h2; rw [he] at q; exact of_decide_eq_true q.symm
  have e1 := ok_no hy
  have e2 := ok_no hz
  have hB : Below w.heap.size w w := Below.refl _ _
  go_enter Tryd.func8, Tryd.ntmps8
  go_wp2_with fail
  refine (shown05_c _ (hL.below (by repeat (first | assumption | exact Below.refl _ _ | (with_reducible refine Below.drew ?_) | (with_reducible refine below_drewN' ?_ _) | (with_reducible refine below_al ?_) | ((with_reducible refine below_set ?_ ?_); rotate_left; focus (first | (simp; done) | (simp; omega))))))).mono ?_; rintro e w1 ⟨rfl, hb1⟩
  have hz1 := hb1.size; (try simp at hz1); obtain ⟨hc1, hf1⟩ := bcell hb1; have hB1 := below_step (w := w) hb1 (by repeat (first | assumption | exact Below.refl _ _ | (with_reducible refine Below.drew ?_) | (with_reducible refine below_drewN' ?_ _) | (with_reducible refine below_al ?_) | ((with_reducible refine below_set ?_ ?_); rotate_left; focus (first | (simp; done) | (simp; omega)))))
  have le_w_w1 : w.heap.size ≤ w1.heap.size := by omega
  try have lt_w_w1 : w.heap.size < w1.heap.size := by omega
  go_wp2_with fail
  refine (rday_c _ _).mono ?_; rintro e w' ⟨rfl, rfl⟩
  go_wp2_with fail
  refine (shift_c _ _ _ (hL.below (by repeat (first | assumption | exact Below.refl _ _ | (with_reducible refine Below.drew ?_) | (with_reducible refine below_drewN' ?_ _) | (with_reducible refine below_al ?_) | ((with_reducible refine below_set ?_ ?_); rotate_left; focus (first | (simp; done) | (simp; omega))))))).mono ?_; rintro e w2 ⟨rfl, hb2⟩
  have hz2 := hb2.size; (try simp at hz2); obtain ⟨hc2, hf2⟩ := bcell hb2; have hB2 := below_step (w := w) hb2 (by repeat (first | assumption | exact Below.refl _ _ | (with_reducible refine Below.drew ?_) | (with_reducible refine below_drewN' ?_ _) | (with_reducible refine below_al ?_) | ((with_reducible refine below_set ?_ ?_); rotate_left; focus (first | (simp; done) | (simp; omega)))))
  have le_w_w2 : w.heap.size ≤ w2.heap.size := by omega
  try have lt_w_w2 : w.heap.size < w2.heap.size := by omega
  have le_w1_w2 : w1.heap.size ≤ w2.heap.size := by omega
  try have lt_w1_w2 : w1.heap.size < w2.heap.size := by omega
  go_wp2_with fail
  refine (shift_c _ _ _ (hL.below (by repeat (first | assumption | exact Below.refl _ _ | (with_reducible refine Below.drew ?_) | (with_reducible refine below_drewN' ?_ _) | (with_reducible refine below_al ?_) | ((with_reducible refine below_set ?_ ?_); rotate_left; focus (first | (simp; done) | (simp; omega))))))).mono ?_; rintro e w3 ⟨rfl, hb3⟩
  have hz3 := hb3.size; (try simp at hz3); obtain ⟨hc3, hf3⟩ := bcell hb3; have hB3 := below_step (w := w) hb3 (by repeat (first | assumption | exact Below.refl _ _ | (with_reducible refine Below.drew ?_) | (with_reducible refine below_drewN' ?_ _) | (with_reducible refine below_al ?_) | ((with_reducible refine below_set ?_ ?_); rotate_left; focus (first | (simp; done) | (simp; omega)))))
  have le_w_w3 : w.heap.size ≤ w3.heap.size := by omega
  try have lt_w_w3 : w.heap.size < w3.heap.size := by omega
  have le_w1_w3 : w1.heap.size ≤ w3.heap.size := by omega
  try have lt_w1_w3 : w1.heap.size < w3.heap.size := by omega
  have le_w2_w3 : w2.heap.size ≤ w3.heap.size := by omega
  try have lt_w2_w3 : w2.heap.size < w3.heap.size := by omega
  go_wp2_with fail
  refine (rof_c _ _).mono ?_; rintro e w4 ⟨rfl, hb4⟩
  have hz4 := hb4.size; (try simp at hz4); obtain ⟨hc4, hf4⟩ := bcell hb4; have hB4 := below_step (w := w) hb4 (by repeat (first | assumption | exact Below.refl _ _ | (with_reducible refine Below.drew ?_) | (with_reducible refine below_drewN' ?_ _) | (with_reducible refine below_al ?_) | ((with_reducible refine below_set ?_ ?_); rotate_left; focus (first | (simp; done) | (simp; omega)))))
  have le_w_w4 : w.heap.size ≤ w4.heap.size := by omega
  try have lt_w_w4 : w.heap.size < w4.heap.size := by omega
  have le_w1_w4 : w1.heap.size ≤ w4.heap.size := by omega
  try have lt_w1_w4 : w1.heap.size < w4.heap.size := by omega
  have le_w2_w4 : w2.heap.size ≤ w4.heap.size := by omega
  try have lt_w2_w4 : w2.heap.size < w4.heap.size := by omega
  have le_w3_w4 : w3.heap.size ≤ w4.heap.size := by omega
  try have lt_w3_w4 : w3.heap.size < w4.heap.size := by omega
  go_wp2_with fail
  refine (rend_c _ _).mono ?_; rintro e w5 ⟨rfl, hb5⟩
  have hz5 := hb5.size; (try simp at hz5); obtain ⟨hc5, hf5⟩ := bcell hb5; have hB5 := below_step (w := w) hb5 (by repeat (first | assumption | exact Below.refl _ _ | (with_reducible refine Below.drew ?_) | (with_reducible refine below_drewN' ?_ _) | (with_reducible refine below_al ?_) | ((with_reducible refine below_set ?_ ?_); rotate_left; focus (first | (simp; done) | (simp; omega)))))
  have le_w_w5 : w.heap.size ≤ w5.heap.size := by omega
  try have lt_w_w5 : w.heap.size < w5.heap.size := by omega
  have le_w1_w5 : w1.heap.size ≤ w5.heap.size := by omega
  try have lt_w1_w5 : w1.heap.size < w5.heap.size := by omega
  have le_w2_w5 : w2.heap.size ≤ w5.heap.size := by omega
  try have lt_w2_w5 : w2.heap.size < w5.heap.size := by omega
  have le_w3_w5 : w3.heap.size ≤ w5.heap.size := by omega
  try have lt_w3_w5 : w3.heap.size < w5.heap.size := by omega
  have le_w4_w5 : w4.heap.size ≤ w5.heap.size := by omega
  try have lt_w4_w5 : w4.heap.size < w5.heap.size := by omega
  go_wp2_with fail
  refine (move_c _ _ _ _ (hL.below (by repeat (first | assumption | exact Below.refl _ _ | (with_reducible refine Below.drew ?_) | (with_reducible refine below_drewN' ?_ _) | (with_reducible refine below_al ?_) | ((with_reducible refine below_set ?_ ?_); rotate_left; focus (first | (simp; done) | (simp; omega))))))).mono ?_; rintro e w6 ⟨rfl, hb6⟩
  have hz6 := hb6.size; (try simp at hz6); obtain ⟨hc6, hf6⟩ := bcell hb6; have hB6 := below_step (w := w) hb6 (by repeat (first | assumption | exact Below.refl _ _ | (with_reducible refine Below.drew ?_) | (with_reducible refine below_drewN' ?_ _) | (with_reducible refine below_al ?_) | ((with_reducible refine below_set ?_ ?_); rotate_left; focus (first | (simp; done) | (simp; omega)))))
  have le_w_w6 : w.heap.size ≤ w6.heap.size := by omega
  try have lt_w_w6 : w.heap.size < w6.heap.size := by omega
  have le_w1_w6 : w1.heap.size ≤ w6.heap.size := by omega
  try have lt_w1_w6 : w1.heap.size < w6.heap.size := by omega
  have le_w2_w6 : w2.heap.size ≤ w6.heap.size := by omega
  try have lt_w2_w6 : w2.heap.size < w6.heap.size := by omega
  have le_w3_w6 : w3.heap.size ≤ w6.heap.size := by omega
  try have lt_w3_w6 : w3.heap.size < w6.heap.size := by omega
  have le_w4_w6 : w4.heap.size ≤ w6.heap.size := by omega
  try have lt_w4_w6 : w4.heap.size < w6.heap.size := by omega
  have le_w5_w6 : w5.heap.size ≤ w6.heap.size := by omega
  try have lt_w5_w6 : w5.heap.size < w6.heap.size := by omega
  go_wp2_with fail
  go_ret
  exact ⟨rfl, by repeat (first | assumption | exact Below.refl _ _ | (with_reducible refine Below.drew ?_) | (with_reducible refine below_drewN' ?_ _) | (with_reducible refine below_al ?_) | ((with_reducible refine below_set ?_ ?_); rotate_left; focus (first | (simp; done) | (simp; omega))))⟩
set_option maxHeartbeats 1000000 in
theorem monthsEras_t_feb_t (n k : Int) (k1 : -32768 ≤ k) (k2 : k ≤ 32767) (h1 : 1 ≤ n) (h2 : n ≤ 3652059) (he : Mon.okB n 4800 = true) (hy : Mon.okB n 12 = true) (hz : Mon.okB (Mon.endV n) k = true) (m2 : (Cal.mOf n == 2) = true) (d29 : (Cal.dOf n == 29) = true) (w : World) (hL : Laid w) : Calls Tryd.prog 8 #[.int .i64 n, .int .i16 k] w fun e w' => e = .returned (.bool true) ∧ Below w.heap.size w w' := by
  obtain ⟨o1, o2, o3, o4⟩ := of_in h1 h2
  have od := dayB_in h1 h2
  have A := Cal.day_of n h1 h2
  have y1 := A.y1; have y2 := A.y2
  clear A
  have e0 := ok_yes he
  have ev := Mon.era_V n h1 h2 he
  have el : n + 146097 ≤ 3652059 := by
    have q := Mon.era_ok n h1 h2; rw [he] at q; exact of_decide_eq_true q.symm
  have e1 := ok_yes hy
  obtain ⟨x1, x2⟩ := Mon.V_bd (eom := false) hy
  obtain ⟨a1, a2, a3⟩ := Mon.of_V (eom := false) hy
  rw [(Mon.year_YN n h1 h2).1] at a1; rw [(Mon.year_YN n h1 h2).2] at a2
  rw [Mon.year_short h1 h2 ⟨by simpa using m2, by simpa using d29⟩] at a3
  obtain ⟨r1, r2, r3, r4⟩ := of_in x1 x2
  rw [a1] at r1; rw [a2] at r2; rw [a3] at r3
  clear a1 a2 a3
  have e2 := ok_yes hz
  have ez := Mon.end_move h1 h2 hz
  have hB : Below w.heap.size w w := Below.refl _ _
  go_enter Tryd.func8, Tryd.ntmps8
  go_wp2_with fail
  refine (shown05_c _ (hL.below (by repeat (first | assumption | exact Below.refl _ _ | (with_reducible refine Below.drew ?_) | (with_reducible refine below_drewN' ?_ _) | (with_reducible refine below_al ?_) | ((with_reducible refine below_set ?_ ?_); rotate_left; focus (first | (simp; done) | (simp; omega))))))).mono ?_; rintro e w1 ⟨rfl, hb1⟩
  have hz1 := hb1.size; (try simp at hz1); obtain ⟨hc1, hf1⟩ := bcell hb1; have hB1 := below_step (w := w) hb1 (by repeat (first | assumption | exact Below.refl _ _ | (with_reducible refine Below.drew ?_) | (with_reducible refine below_drewN' ?_ _) | (with_reducible refine below_al ?_) | ((with_reducible refine below_set ?_ ?_); rotate_left; focus (first | (simp; done) | (simp; omega)))))
  have le_w_w1 : w.heap.size ≤ w1.heap.size := by omega
  try have lt_w_w1 : w.heap.size < w1.heap.size := by omega
  go_wp2_with fail
  refine (rday_c _ _).mono ?_; rintro e w' ⟨rfl, rfl⟩
  go_wp2_with fail
  refine (shift_c _ _ _ (hL.below (by repeat (first | assumption | exact Below.refl _ _ | (with_reducible refine Below.drew ?_) | (with_reducible refine below_drewN' ?_ _) | (with_reducible refine below_al ?_) | ((with_reducible refine below_set ?_ ?_); rotate_left; focus (first | (simp; done) | (simp; omega))))))).mono ?_; rintro e w2 ⟨rfl, hb2⟩
  have hz2 := hb2.size; (try simp at hz2); obtain ⟨hc2, hf2⟩ := bcell hb2; have hB2 := below_step (w := w) hb2 (by repeat (first | assumption | exact Below.refl _ _ | (with_reducible refine Below.drew ?_) | (with_reducible refine below_drewN' ?_ _) | (with_reducible refine below_al ?_) | ((with_reducible refine below_set ?_ ?_); rotate_left; focus (first | (simp; done) | (simp; omega)))))
  have le_w_w2 : w.heap.size ≤ w2.heap.size := by omega
  try have lt_w_w2 : w.heap.size < w2.heap.size := by omega
  have le_w1_w2 : w1.heap.size ≤ w2.heap.size := by omega
  try have lt_w1_w2 : w1.heap.size < w2.heap.size := by omega
  go_wp2_with fail
  refine (shift_c _ _ _ (hL.below (by repeat (first | assumption | exact Below.refl _ _ | (with_reducible refine Below.drew ?_) | (with_reducible refine below_drewN' ?_ _) | (with_reducible refine below_al ?_) | ((with_reducible refine below_set ?_ ?_); rotate_left; focus (first | (simp; done) | (simp; omega))))))).mono ?_; rintro e w3 ⟨rfl, hb3⟩
  have hz3 := hb3.size; (try simp at hz3); obtain ⟨hc3, hf3⟩ := bcell hb3; have hB3 := below_step (w := w) hb3 (by repeat (first | assumption | exact Below.refl _ _ | (with_reducible refine Below.drew ?_) | (with_reducible refine below_drewN' ?_ _) | (with_reducible refine below_al ?_) | ((with_reducible refine below_set ?_ ?_); rotate_left; focus (first | (simp; done) | (simp; omega)))))
  have le_w_w3 : w.heap.size ≤ w3.heap.size := by omega
  try have lt_w_w3 : w.heap.size < w3.heap.size := by omega
  have le_w1_w3 : w1.heap.size ≤ w3.heap.size := by omega
  try have lt_w1_w3 : w1.heap.size < w3.heap.size := by omega
  have le_w2_w3 : w2.heap.size ≤ w3.heap.size := by omega
  try have lt_w2_w3 : w2.heap.size < w3.heap.size := by omega
  go_wp2_with fail
  refine (rof_c _ _).mono ?_; rintro e w4 ⟨rfl, hb4⟩
  have hz4 := hb4.size; (try simp at hz4); obtain ⟨hc4, hf4⟩ := bcell hb4; have hB4 := below_step (w := w) hb4 (by repeat (first | assumption | exact Below.refl _ _ | (with_reducible refine Below.drew ?_) | (with_reducible refine below_drewN' ?_ _) | (with_reducible refine below_al ?_) | ((with_reducible refine below_set ?_ ?_); rotate_left; focus (first | (simp; done) | (simp; omega)))))
  have le_w_w4 : w.heap.size ≤ w4.heap.size := by omega
  try have lt_w_w4 : w.heap.size < w4.heap.size := by omega
  have le_w1_w4 : w1.heap.size ≤ w4.heap.size := by omega
  try have lt_w1_w4 : w1.heap.size < w4.heap.size := by omega
  have le_w2_w4 : w2.heap.size ≤ w4.heap.size := by omega
  try have lt_w2_w4 : w2.heap.size < w4.heap.size := by omega
  have le_w3_w4 : w3.heap.size ≤ w4.heap.size := by omega
  try have lt_w3_w4 : w3.heap.size < w4.heap.size := by omega
  go_wp2_with fail
  refine (rof_c _ _).mono ?_; rintro e w5 ⟨rfl, hb5⟩
  have hz5 := hb5.size; (try simp at hz5); obtain ⟨hc5, hf5⟩ := bcell hb5; have hB5 := below_step (w := w) hb5 (by repeat (first | assumption | exact Below.refl _ _ | (with_reducible refine Below.drew ?_) | (with_reducible refine below_drewN' ?_ _) | (with_reducible refine below_al ?_) | ((with_reducible refine below_set ?_ ?_); rotate_left; focus (first | (simp; done) | (simp; omega)))))
  have le_w_w5 : w.heap.size ≤ w5.heap.size := by omega
  try have lt_w_w5 : w.heap.size < w5.heap.size := by omega
  have le_w1_w5 : w1.heap.size ≤ w5.heap.size := by omega
  try have lt_w1_w5 : w1.heap.size < w5.heap.size := by omega
  have le_w2_w5 : w2.heap.size ≤ w5.heap.size := by omega
  try have lt_w2_w5 : w2.heap.size < w5.heap.size := by omega
  have le_w3_w5 : w3.heap.size ≤ w5.heap.size := by omega
  try have lt_w3_w5 : w3.heap.size < w5.heap.size := by omega
  have le_w4_w5 : w4.heap.size ≤ w5.heap.size := by omega
  try have lt_w4_w5 : w4.heap.size < w5.heap.size := by omega
  go_wp2_with fail
  refine (rend_c _ _).mono ?_; rintro e w6 ⟨rfl, hb6⟩
  have hz6 := hb6.size; (try simp at hz6); obtain ⟨hc6, hf6⟩ := bcell hb6; have hB6 := below_step (w := w) hb6 (by repeat (first | assumption | exact Below.refl _ _ | (with_reducible refine Below.drew ?_) | (with_reducible refine below_drewN' ?_ _) | (with_reducible refine below_al ?_) | ((with_reducible refine below_set ?_ ?_); rotate_left; focus (first | (simp; done) | (simp; omega)))))
  have le_w_w6 : w.heap.size ≤ w6.heap.size := by omega
  try have lt_w_w6 : w.heap.size < w6.heap.size := by omega
  have le_w1_w6 : w1.heap.size ≤ w6.heap.size := by omega
  try have lt_w1_w6 : w1.heap.size < w6.heap.size := by omega
  have le_w2_w6 : w2.heap.size ≤ w6.heap.size := by omega
  try have lt_w2_w6 : w2.heap.size < w6.heap.size := by omega
  have le_w3_w6 : w3.heap.size ≤ w6.heap.size := by omega
  try have lt_w3_w6 : w3.heap.size < w6.heap.size := by omega
  have le_w4_w6 : w4.heap.size ≤ w6.heap.size := by omega
  try have lt_w4_w6 : w4.heap.size < w6.heap.size := by omega
  have le_w5_w6 : w5.heap.size ≤ w6.heap.size := by omega
  try have lt_w5_w6 : w5.heap.size < w6.heap.size := by omega
  go_wp2_with fail
  refine (move_c _ _ _ _ (hL.below (by repeat (first | assumption | exact Below.refl _ _ | (with_reducible refine Below.drew ?_) | (with_reducible refine below_drewN' ?_ _) | (with_reducible refine below_al ?_) | ((with_reducible refine below_set ?_ ?_); rotate_left; focus (first | (simp; done) | (simp; omega))))))).mono ?_; rintro e w7 ⟨rfl, hb7⟩
  have hz7 := hb7.size; (try simp at hz7); obtain ⟨hc7, hf7⟩ := bcell hb7; have hB7 := below_step (w := w) hb7 (by repeat (first | assumption | exact Below.refl _ _ | (with_reducible refine Below.drew ?_) | (with_reducible refine below_drewN' ?_ _) | (with_reducible refine below_al ?_) | ((with_reducible refine below_set ?_ ?_); rotate_left; focus (first | (simp; done) | (simp; omega)))))
  have le_w_w7 : w.heap.size ≤ w7.heap.size := by omega
  try have lt_w_w7 : w.heap.size < w7.heap.size := by omega
  have le_w1_w7 : w1.heap.size ≤ w7.heap.size := by omega
  try have lt_w1_w7 : w1.heap.size < w7.heap.size := by omega
  have le_w2_w7 : w2.heap.size ≤ w7.heap.size := by omega
  try have lt_w2_w7 : w2.heap.size < w7.heap.size := by omega
  have le_w3_w7 : w3.heap.size ≤ w7.heap.size := by omega
  try have lt_w3_w7 : w3.heap.size < w7.heap.size := by omega
  have le_w4_w7 : w4.heap.size ≤ w7.heap.size := by omega
  try have lt_w4_w7 : w4.heap.size < w7.heap.size := by omega
  have le_w5_w7 : w5.heap.size ≤ w7.heap.size := by omega
  try have lt_w5_w7 : w5.heap.size < w7.heap.size := by omega
  have le_w6_w7 : w6.heap.size ≤ w7.heap.size := by omega
  try have lt_w6_w7 : w6.heap.size < w7.heap.size := by omega
  go_wp2_with fail
  refine (last_c _ _ (hL.below (by repeat (first | assumption | exact Below.refl _ _ | (with_reducible refine Below.drew ?_) | (with_reducible refine below_drewN' ?_ _) | (with_reducible refine below_al ?_) | ((with_reducible refine below_set ?_ ?_); rotate_left; focus (first | (simp; done) | (simp; omega))))))).mono ?_; rintro e w8 ⟨rfl, hb8⟩
  have hz8 := hb8.size; (try simp at hz8); obtain ⟨hc8, hf8⟩ := bcell hb8; have hB8 := below_step (w := w) hb8 (by repeat (first | assumption | exact Below.refl _ _ | (with_reducible refine Below.drew ?_) | (with_reducible refine below_drewN' ?_ _) | (with_reducible refine below_al ?_) | ((with_reducible refine below_set ?_ ?_); rotate_left; focus (first | (simp; done) | (simp; omega)))))
  have le_w_w8 : w.heap.size ≤ w8.heap.size := by omega
  try have lt_w_w8 : w.heap.size < w8.heap.size := by omega
  have le_w1_w8 : w1.heap.size ≤ w8.heap.size := by omega
  try have lt_w1_w8 : w1.heap.size < w8.heap.size := by omega
  have le_w2_w8 : w2.heap.size ≤ w8.heap.size := by omega
  try have lt_w2_w8 : w2.heap.size < w8.heap.size := by omega
  have le_w3_w8 : w3.heap.size ≤ w8.heap.size := by omega
  try have lt_w3_w8 : w3.heap.size < w8.heap.size := by omega
  have le_w4_w8 : w4.heap.size ≤ w8.heap.size := by omega
  try have lt_w4_w8 : w4.heap.size < w8.heap.size := by omega
  have le_w5_w8 : w5.heap.size ≤ w8.heap.size := by omega
  try have lt_w5_w8 : w5.heap.size < w8.heap.size := by omega
  have le_w6_w8 : w6.heap.size ≤ w8.heap.size := by omega
  try have lt_w6_w8 : w6.heap.size < w8.heap.size := by omega
  have le_w7_w8 : w7.heap.size ≤ w8.heap.size := by omega
  try have lt_w7_w8 : w7.heap.size < w8.heap.size := by omega
  go_wp2_with fail
  go_ret
  exact ⟨rfl, by repeat (first | assumption | exact Below.refl _ _ | (with_reducible refine Below.drew ?_) | (with_reducible refine below_drewN' ?_ _) | (with_reducible refine below_al ?_) | ((with_reducible refine below_set ?_ ?_); rotate_left; focus (first | (simp; done) | (simp; omega))))⟩
set_option maxHeartbeats 1000000 in
theorem monthsEras_t_feb_f (n k : Int) (k1 : -32768 ≤ k) (k2 : k ≤ 32767) (h1 : 1 ≤ n) (h2 : n ≤ 3652059) (he : Mon.okB n 4800 = true) (hy : Mon.okB n 12 = true) (hz : Mon.okB (Mon.endV n) k = false) (m2 : (Cal.mOf n == 2) = true) (d29 : (Cal.dOf n == 29) = true) (w : World) (hL : Laid w) : Calls Tryd.prog 8 #[.int .i64 n, .int .i16 k] w fun e w' => e = .returned (.bool true) ∧ Below w.heap.size w w' := by
  obtain ⟨o1, o2, o3, o4⟩ := of_in h1 h2
  have od := dayB_in h1 h2
  have A := Cal.day_of n h1 h2
  have y1 := A.y1; have y2 := A.y2
  clear A
  have e0 := ok_yes he
  have ev := Mon.era_V n h1 h2 he
  have el : n + 146097 ≤ 3652059 := by
    have q := Mon.era_ok n h1 h2; rw [he] at q; exact of_decide_eq_true q.symm
  have e1 := ok_yes hy
  obtain ⟨x1, x2⟩ := Mon.V_bd (eom := false) hy
  obtain ⟨a1, a2, a3⟩ := Mon.of_V (eom := false) hy
  rw [(Mon.year_YN n h1 h2).1] at a1; rw [(Mon.year_YN n h1 h2).2] at a2
  rw [Mon.year_short h1 h2 ⟨by simpa using m2, by simpa using d29⟩] at a3
  obtain ⟨r1, r2, r3, r4⟩ := of_in x1 x2
  rw [a1] at r1; rw [a2] at r2; rw [a3] at r3
  clear a1 a2 a3
  have e2 := ok_no hz
  have hB : Below w.heap.size w w := Below.refl _ _
  go_enter Tryd.func8, Tryd.ntmps8
  go_wp2_with fail
  refine (shown05_c _ (hL.below (by repeat (first | assumption | exact Below.refl _ _ | (with_reducible refine Below.drew ?_) | (with_reducible refine below_drewN' ?_ _) | (with_reducible refine below_al ?_) | ((with_reducible refine below_set ?_ ?_); rotate_left; focus (first | (simp; done) | (simp; omega))))))).mono ?_; rintro e w1 ⟨rfl, hb1⟩
  have hz1 := hb1.size; (try simp at hz1); obtain ⟨hc1, hf1⟩ := bcell hb1; have hB1 := below_step (w := w) hb1 (by repeat (first | assumption | exact Below.refl _ _ | (with_reducible refine Below.drew ?_) | (with_reducible refine below_drewN' ?_ _) | (with_reducible refine below_al ?_) | ((with_reducible refine below_set ?_ ?_); rotate_left; focus (first | (simp; done) | (simp; omega)))))
  have le_w_w1 : w.heap.size ≤ w1.heap.size := by omega
  try have lt_w_w1 : w.heap.size < w1.heap.size := by omega
  go_wp2_with fail
  refine (rday_c _ _).mono ?_; rintro e w' ⟨rfl, rfl⟩
  go_wp2_with fail
  refine (shift_c _ _ _ (hL.below (by repeat (first | assumption | exact Below.refl _ _ | (with_reducible refine Below.drew ?_) | (with_reducible refine below_drewN' ?_ _) | (with_reducible refine below_al ?_) | ((with_reducible refine below_set ?_ ?_); rotate_left; focus (first | (simp; done) | (simp; omega))))))).mono ?_; rintro e w2 ⟨rfl, hb2⟩
  have hz2 := hb2.size; (try simp at hz2); obtain ⟨hc2, hf2⟩ := bcell hb2; have hB2 := below_step (w := w) hb2 (by repeat (first | assumption | exact Below.refl _ _ | (with_reducible refine Below.drew ?_) | (with_reducible refine below_drewN' ?_ _) | (with_reducible refine below_al ?_) | ((with_reducible refine below_set ?_ ?_); rotate_left; focus (first | (simp; done) | (simp; omega)))))
  have le_w_w2 : w.heap.size ≤ w2.heap.size := by omega
  try have lt_w_w2 : w.heap.size < w2.heap.size := by omega
  have le_w1_w2 : w1.heap.size ≤ w2.heap.size := by omega
  try have lt_w1_w2 : w1.heap.size < w2.heap.size := by omega
  go_wp2_with fail
  refine (shift_c _ _ _ (hL.below (by repeat (first | assumption | exact Below.refl _ _ | (with_reducible refine Below.drew ?_) | (with_reducible refine below_drewN' ?_ _) | (with_reducible refine below_al ?_) | ((with_reducible refine below_set ?_ ?_); rotate_left; focus (first | (simp; done) | (simp; omega))))))).mono ?_; rintro e w3 ⟨rfl, hb3⟩
  have hz3 := hb3.size; (try simp at hz3); obtain ⟨hc3, hf3⟩ := bcell hb3; have hB3 := below_step (w := w) hb3 (by repeat (first | assumption | exact Below.refl _ _ | (with_reducible refine Below.drew ?_) | (with_reducible refine below_drewN' ?_ _) | (with_reducible refine below_al ?_) | ((with_reducible refine below_set ?_ ?_); rotate_left; focus (first | (simp; done) | (simp; omega)))))
  have le_w_w3 : w.heap.size ≤ w3.heap.size := by omega
  try have lt_w_w3 : w.heap.size < w3.heap.size := by omega
  have le_w1_w3 : w1.heap.size ≤ w3.heap.size := by omega
  try have lt_w1_w3 : w1.heap.size < w3.heap.size := by omega
  have le_w2_w3 : w2.heap.size ≤ w3.heap.size := by omega
  try have lt_w2_w3 : w2.heap.size < w3.heap.size := by omega
  go_wp2_with fail
  refine (rof_c _ _).mono ?_; rintro e w4 ⟨rfl, hb4⟩
  have hz4 := hb4.size; (try simp at hz4); obtain ⟨hc4, hf4⟩ := bcell hb4; have hB4 := below_step (w := w) hb4 (by repeat (first | assumption | exact Below.refl _ _ | (with_reducible refine Below.drew ?_) | (with_reducible refine below_drewN' ?_ _) | (with_reducible refine below_al ?_) | ((with_reducible refine below_set ?_ ?_); rotate_left; focus (first | (simp; done) | (simp; omega)))))
  have le_w_w4 : w.heap.size ≤ w4.heap.size := by omega
  try have lt_w_w4 : w.heap.size < w4.heap.size := by omega
  have le_w1_w4 : w1.heap.size ≤ w4.heap.size := by omega
  try have lt_w1_w4 : w1.heap.size < w4.heap.size := by omega
  have le_w2_w4 : w2.heap.size ≤ w4.heap.size := by omega
  try have lt_w2_w4 : w2.heap.size < w4.heap.size := by omega
  have le_w3_w4 : w3.heap.size ≤ w4.heap.size := by omega
  try have lt_w3_w4 : w3.heap.size < w4.heap.size := by omega
  go_wp2_with fail
  refine (rof_c _ _).mono ?_; rintro e w5 ⟨rfl, hb5⟩
  have hz5 := hb5.size; (try simp at hz5); obtain ⟨hc5, hf5⟩ := bcell hb5; have hB5 := below_step (w := w) hb5 (by repeat (first | assumption | exact Below.refl _ _ | (with_reducible refine Below.drew ?_) | (with_reducible refine below_drewN' ?_ _) | (with_reducible refine below_al ?_) | ((with_reducible refine below_set ?_ ?_); rotate_left; focus (first | (simp; done) | (simp; omega)))))
  have le_w_w5 : w.heap.size ≤ w5.heap.size := by omega
  try have lt_w_w5 : w.heap.size < w5.heap.size := by omega
  have le_w1_w5 : w1.heap.size ≤ w5.heap.size := by omega
  try have lt_w1_w5 : w1.heap.size < w5.heap.size := by omega
  have le_w2_w5 : w2.heap.size ≤ w5.heap.size := by omega
  try have lt_w2_w5 : w2.heap.size < w5.heap.size := by omega
  have le_w3_w5 : w3.heap.size ≤ w5.heap.size := by omega
  try have lt_w3_w5 : w3.heap.size < w5.heap.size := by omega
  have le_w4_w5 : w4.heap.size ≤ w5.heap.size := by omega
  try have lt_w4_w5 : w4.heap.size < w5.heap.size := by omega
  go_wp2_with fail
  refine (rend_c _ _).mono ?_; rintro e w6 ⟨rfl, hb6⟩
  have hz6 := hb6.size; (try simp at hz6); obtain ⟨hc6, hf6⟩ := bcell hb6; have hB6 := below_step (w := w) hb6 (by repeat (first | assumption | exact Below.refl _ _ | (with_reducible refine Below.drew ?_) | (with_reducible refine below_drewN' ?_ _) | (with_reducible refine below_al ?_) | ((with_reducible refine below_set ?_ ?_); rotate_left; focus (first | (simp; done) | (simp; omega)))))
  have le_w_w6 : w.heap.size ≤ w6.heap.size := by omega
  try have lt_w_w6 : w.heap.size < w6.heap.size := by omega
  have le_w1_w6 : w1.heap.size ≤ w6.heap.size := by omega
  try have lt_w1_w6 : w1.heap.size < w6.heap.size := by omega
  have le_w2_w6 : w2.heap.size ≤ w6.heap.size := by omega
  try have lt_w2_w6 : w2.heap.size < w6.heap.size := by omega
  have le_w3_w6 : w3.heap.size ≤ w6.heap.size := by omega
  try have lt_w3_w6 : w3.heap.size < w6.heap.size := by omega
  have le_w4_w6 : w4.heap.size ≤ w6.heap.size := by omega
  try have lt_w4_w6 : w4.heap.size < w6.heap.size := by omega
  have le_w5_w6 : w5.heap.size ≤ w6.heap.size := by omega
  try have lt_w5_w6 : w5.heap.size < w6.heap.size := by omega
  go_wp2_with fail
  refine (move_c _ _ _ _ (hL.below (by repeat (first | assumption | exact Below.refl _ _ | (with_reducible refine Below.drew ?_) | (with_reducible refine below_drewN' ?_ _) | (with_reducible refine below_al ?_) | ((with_reducible refine below_set ?_ ?_); rotate_left; focus (first | (simp; done) | (simp; omega))))))).mono ?_; rintro e w7 ⟨rfl, hb7⟩
  have hz7 := hb7.size; (try simp at hz7); obtain ⟨hc7, hf7⟩ := bcell hb7; have hB7 := below_step (w := w) hb7 (by repeat (first | assumption | exact Below.refl _ _ | (with_reducible refine Below.drew ?_) | (with_reducible refine below_drewN' ?_ _) | (with_reducible refine below_al ?_) | ((with_reducible refine below_set ?_ ?_); rotate_left; focus (first | (simp; done) | (simp; omega)))))
  have le_w_w7 : w.heap.size ≤ w7.heap.size := by omega
  try have lt_w_w7 : w.heap.size < w7.heap.size := by omega
  have le_w1_w7 : w1.heap.size ≤ w7.heap.size := by omega
  try have lt_w1_w7 : w1.heap.size < w7.heap.size := by omega
  have le_w2_w7 : w2.heap.size ≤ w7.heap.size := by omega
  try have lt_w2_w7 : w2.heap.size < w7.heap.size := by omega
  have le_w3_w7 : w3.heap.size ≤ w7.heap.size := by omega
  try have lt_w3_w7 : w3.heap.size < w7.heap.size := by omega
  have le_w4_w7 : w4.heap.size ≤ w7.heap.size := by omega
  try have lt_w4_w7 : w4.heap.size < w7.heap.size := by omega
  have le_w5_w7 : w5.heap.size ≤ w7.heap.size := by omega
  try have lt_w5_w7 : w5.heap.size < w7.heap.size := by omega
  have le_w6_w7 : w6.heap.size ≤ w7.heap.size := by omega
  try have lt_w6_w7 : w6.heap.size < w7.heap.size := by omega
  go_wp2_with fail
  go_ret
  exact ⟨rfl, by repeat (first | assumption | exact Below.refl _ _ | (with_reducible refine Below.drew ?_) | (with_reducible refine below_drewN' ?_ _) | (with_reducible refine below_al ?_) | ((with_reducible refine below_set ?_ ?_); rotate_left; focus (first | (simp; done) | (simp; omega))))⟩
set_option maxHeartbeats 1000000 in
theorem monthsEras_t_feb2_t (n k : Int) (k1 : -32768 ≤ k) (k2 : k ≤ 32767) (h1 : 1 ≤ n) (h2 : n ≤ 3652059) (he : Mon.okB n 4800 = true) (hy : Mon.okB n 12 = true) (hz : Mon.okB (Mon.endV n) k = true) (m2 : (Cal.mOf n == 2) = true) (d29 : (Cal.dOf n == 29) = false) (w : World) (hL : Laid w) : Calls Tryd.prog 8 #[.int .i64 n, .int .i16 k] w fun e w' => e = .returned (.bool true) ∧ Below w.heap.size w w' := by
  obtain ⟨o1, o2, o3, o4⟩ := of_in h1 h2
  have od := dayB_in h1 h2
  have A := Cal.day_of n h1 h2
  have y1 := A.y1; have y2 := A.y2
  clear A
  have e0 := ok_yes he
  have ev := Mon.era_V n h1 h2 he
  have el : n + 146097 ≤ 3652059 := by
    have q := Mon.era_ok n h1 h2; rw [he] at q; exact of_decide_eq_true q.symm
  have e1 := ok_yes hy
  obtain ⟨x1, x2⟩ := Mon.V_bd (eom := false) hy
  obtain ⟨a1, a2, a3⟩ := Mon.of_V (eom := false) hy
  rw [(Mon.year_YN n h1 h2).1] at a1; rw [(Mon.year_YN n h1 h2).2] at a2
  rw [Mon.year_plain h1 h2 (fun c => absurd c.2 (by simpa using d29))] at a3
  obtain ⟨r1, r2, r3, r4⟩ := of_in x1 x2
  rw [a1] at r1; rw [a2] at r2; rw [a3] at r3
  clear a1 a2 a3
  have e2 := ok_yes hz
  have ez := Mon.end_move h1 h2 hz
  have hB : Below w.heap.size w w := Below.refl _ _
  go_enter Tryd.func8, Tryd.ntmps8
  go_wp2_with fail
  refine (shown05_c _ (hL.below (by repeat (first | assumption | exact Below.refl _ _ | (with_reducible refine Below.drew ?_) | (with_reducible refine below_drewN' ?_ _) | (with_reducible refine below_al ?_) | ((with_reducible refine below_set ?_ ?_); rotate_left; focus (first | (simp; done) | (simp; omega))))))).mono ?_; rintro e w1 ⟨rfl, hb1⟩
  have hz1 := hb1.size; (try simp at hz1); obtain ⟨hc1, hf1⟩ := bcell hb1; have hB1 := below_step (w := w) hb1 (by repeat (first | assumption | exact Below.refl _ _ | (with_reducible refine Below.drew ?_) | (with_reducible refine below_drewN' ?_ _) | (with_reducible refine below_al ?_) | ((with_reducible refine below_set ?_ ?_); rotate_left; focus (first | (simp; done) | (simp; omega)))))
  have le_w_w1 : w.heap.size ≤ w1.heap.size := by omega
  try have lt_w_w1 : w.heap.size < w1.heap.size := by omega
  go_wp2_with fail
  refine (rday_c _ _).mono ?_; rintro e w' ⟨rfl, rfl⟩
  go_wp2_with fail
  refine (shift_c _ _ _ (hL.below (by repeat (first | assumption | exact Below.refl _ _ | (with_reducible refine Below.drew ?_) | (with_reducible refine below_drewN' ?_ _) | (with_reducible refine below_al ?_) | ((with_reducible refine below_set ?_ ?_); rotate_left; focus (first | (simp; done) | (simp; omega))))))).mono ?_; rintro e w2 ⟨rfl, hb2⟩
  have hz2 := hb2.size; (try simp at hz2); obtain ⟨hc2, hf2⟩ := bcell hb2; have hB2 := below_step (w := w) hb2 (by repeat (first | assumption | exact Below.refl _ _ | (with_reducible refine Below.drew ?_) | (with_reducible refine below_drewN' ?_ _) | (with_reducible refine below_al ?_) | ((with_reducible refine below_set ?_ ?_); rotate_left; focus (first | (simp; done) | (simp; omega)))))
  have le_w_w2 : w.heap.size ≤ w2.heap.size := by omega
  try have lt_w_w2 : w.heap.size < w2.heap.size := by omega
  have le_w1_w2 : w1.heap.size ≤ w2.heap.size := by omega
  try have lt_w1_w2 : w1.heap.size < w2.heap.size := by omega
  go_wp2_with fail
  refine (shift_c _ _ _ (hL.below (by repeat (first | assumption | exact Below.refl _ _ | (with_reducible refine Below.drew ?_) | (with_reducible refine below_drewN' ?_ _) | (with_reducible refine below_al ?_) | ((with_reducible refine below_set ?_ ?_); rotate_left; focus (first | (simp; done) | (simp; omega))))))).mono ?_; rintro e w3 ⟨rfl, hb3⟩
  have hz3 := hb3.size; (try simp at hz3); obtain ⟨hc3, hf3⟩ := bcell hb3; have hB3 := below_step (w := w) hb3 (by repeat (first | assumption | exact Below.refl _ _ | (with_reducible refine Below.drew ?_) | (with_reducible refine below_drewN' ?_ _) | (with_reducible refine below_al ?_) | ((with_reducible refine below_set ?_ ?_); rotate_left; focus (first | (simp; done) | (simp; omega)))))
  have le_w_w3 : w.heap.size ≤ w3.heap.size := by omega
  try have lt_w_w3 : w.heap.size < w3.heap.size := by omega
  have le_w1_w3 : w1.heap.size ≤ w3.heap.size := by omega
  try have lt_w1_w3 : w1.heap.size < w3.heap.size := by omega
  have le_w2_w3 : w2.heap.size ≤ w3.heap.size := by omega
  try have lt_w2_w3 : w2.heap.size < w3.heap.size := by omega
  go_wp2_with fail
  refine (rof_c _ _).mono ?_; rintro e w4 ⟨rfl, hb4⟩
  have hz4 := hb4.size; (try simp at hz4); obtain ⟨hc4, hf4⟩ := bcell hb4; have hB4 := below_step (w := w) hb4 (by repeat (first | assumption | exact Below.refl _ _ | (with_reducible refine Below.drew ?_) | (with_reducible refine below_drewN' ?_ _) | (with_reducible refine below_al ?_) | ((with_reducible refine below_set ?_ ?_); rotate_left; focus (first | (simp; done) | (simp; omega)))))
  have le_w_w4 : w.heap.size ≤ w4.heap.size := by omega
  try have lt_w_w4 : w.heap.size < w4.heap.size := by omega
  have le_w1_w4 : w1.heap.size ≤ w4.heap.size := by omega
  try have lt_w1_w4 : w1.heap.size < w4.heap.size := by omega
  have le_w2_w4 : w2.heap.size ≤ w4.heap.size := by omega
  try have lt_w2_w4 : w2.heap.size < w4.heap.size := by omega
  have le_w3_w4 : w3.heap.size ≤ w4.heap.size := by omega
  try have lt_w3_w4 : w3.heap.size < w4.heap.size := by omega
  go_wp2_with fail
  refine (rof_c _ _).mono ?_; rintro e w5 ⟨rfl, hb5⟩
  have hz5 := hb5.size; (try simp at hz5); obtain ⟨hc5, hf5⟩ := bcell hb5; have hB5 := below_step (w := w) hb5 (by repeat (first | assumption | exact Below.refl _ _ | (with_reducible refine Below.drew ?_) | (with_reducible refine below_drewN' ?_ _) | (with_reducible refine below_al ?_) | ((with_reducible refine below_set ?_ ?_); rotate_left; focus (first | (simp; done) | (simp; omega)))))
  have le_w_w5 : w.heap.size ≤ w5.heap.size := by omega
  try have lt_w_w5 : w.heap.size < w5.heap.size := by omega
  have le_w1_w5 : w1.heap.size ≤ w5.heap.size := by omega
  try have lt_w1_w5 : w1.heap.size < w5.heap.size := by omega
  have le_w2_w5 : w2.heap.size ≤ w5.heap.size := by omega
  try have lt_w2_w5 : w2.heap.size < w5.heap.size := by omega
  have le_w3_w5 : w3.heap.size ≤ w5.heap.size := by omega
  try have lt_w3_w5 : w3.heap.size < w5.heap.size := by omega
  have le_w4_w5 : w4.heap.size ≤ w5.heap.size := by omega
  try have lt_w4_w5 : w4.heap.size < w5.heap.size := by omega
  go_wp2_with fail
  refine (rend_c _ _).mono ?_; rintro e w6 ⟨rfl, hb6⟩
  have hz6 := hb6.size; (try simp at hz6); obtain ⟨hc6, hf6⟩ := bcell hb6; have hB6 := below_step (w := w) hb6 (by repeat (first | assumption | exact Below.refl _ _ | (with_reducible refine Below.drew ?_) | (with_reducible refine below_drewN' ?_ _) | (with_reducible refine below_al ?_) | ((with_reducible refine below_set ?_ ?_); rotate_left; focus (first | (simp; done) | (simp; omega)))))
  have le_w_w6 : w.heap.size ≤ w6.heap.size := by omega
  try have lt_w_w6 : w.heap.size < w6.heap.size := by omega
  have le_w1_w6 : w1.heap.size ≤ w6.heap.size := by omega
  try have lt_w1_w6 : w1.heap.size < w6.heap.size := by omega
  have le_w2_w6 : w2.heap.size ≤ w6.heap.size := by omega
  try have lt_w2_w6 : w2.heap.size < w6.heap.size := by omega
  have le_w3_w6 : w3.heap.size ≤ w6.heap.size := by omega
  try have lt_w3_w6 : w3.heap.size < w6.heap.size := by omega
  have le_w4_w6 : w4.heap.size ≤ w6.heap.size := by omega
  try have lt_w4_w6 : w4.heap.size < w6.heap.size := by omega
  have le_w5_w6 : w5.heap.size ≤ w6.heap.size := by omega
  try have lt_w5_w6 : w5.heap.size < w6.heap.size := by omega
  go_wp2_with fail
  refine (move_c _ _ _ _ (hL.below (by repeat (first | assumption | exact Below.refl _ _ | (with_reducible refine Below.drew ?_) | (with_reducible refine below_drewN' ?_ _) | (with_reducible refine below_al ?_) | ((with_reducible refine below_set ?_ ?_); rotate_left; focus (first | (simp; done) | (simp; omega))))))).mono ?_; rintro e w7 ⟨rfl, hb7⟩
  have hz7 := hb7.size; (try simp at hz7); obtain ⟨hc7, hf7⟩ := bcell hb7; have hB7 := below_step (w := w) hb7 (by repeat (first | assumption | exact Below.refl _ _ | (with_reducible refine Below.drew ?_) | (with_reducible refine below_drewN' ?_ _) | (with_reducible refine below_al ?_) | ((with_reducible refine below_set ?_ ?_); rotate_left; focus (first | (simp; done) | (simp; omega)))))
  have le_w_w7 : w.heap.size ≤ w7.heap.size := by omega
  try have lt_w_w7 : w.heap.size < w7.heap.size := by omega
  have le_w1_w7 : w1.heap.size ≤ w7.heap.size := by omega
  try have lt_w1_w7 : w1.heap.size < w7.heap.size := by omega
  have le_w2_w7 : w2.heap.size ≤ w7.heap.size := by omega
  try have lt_w2_w7 : w2.heap.size < w7.heap.size := by omega
  have le_w3_w7 : w3.heap.size ≤ w7.heap.size := by omega
  try have lt_w3_w7 : w3.heap.size < w7.heap.size := by omega
  have le_w4_w7 : w4.heap.size ≤ w7.heap.size := by omega
  try have lt_w4_w7 : w4.heap.size < w7.heap.size := by omega
  have le_w5_w7 : w5.heap.size ≤ w7.heap.size := by omega
  try have lt_w5_w7 : w5.heap.size < w7.heap.size := by omega
  have le_w6_w7 : w6.heap.size ≤ w7.heap.size := by omega
  try have lt_w6_w7 : w6.heap.size < w7.heap.size := by omega
  go_wp2_with fail
  refine (last_c _ _ (hL.below (by repeat (first | assumption | exact Below.refl _ _ | (with_reducible refine Below.drew ?_) | (with_reducible refine below_drewN' ?_ _) | (with_reducible refine below_al ?_) | ((with_reducible refine below_set ?_ ?_); rotate_left; focus (first | (simp; done) | (simp; omega))))))).mono ?_; rintro e w8 ⟨rfl, hb8⟩
  have hz8 := hb8.size; (try simp at hz8); obtain ⟨hc8, hf8⟩ := bcell hb8; have hB8 := below_step (w := w) hb8 (by repeat (first | assumption | exact Below.refl _ _ | (with_reducible refine Below.drew ?_) | (with_reducible refine below_drewN' ?_ _) | (with_reducible refine below_al ?_) | ((with_reducible refine below_set ?_ ?_); rotate_left; focus (first | (simp; done) | (simp; omega)))))
  have le_w_w8 : w.heap.size ≤ w8.heap.size := by omega
  try have lt_w_w8 : w.heap.size < w8.heap.size := by omega
  have le_w1_w8 : w1.heap.size ≤ w8.heap.size := by omega
  try have lt_w1_w8 : w1.heap.size < w8.heap.size := by omega
  have le_w2_w8 : w2.heap.size ≤ w8.heap.size := by omega
  try have lt_w2_w8 : w2.heap.size < w8.heap.size := by omega
  have le_w3_w8 : w3.heap.size ≤ w8.heap.size := by omega
  try have lt_w3_w8 : w3.heap.size < w8.heap.size := by omega
  have le_w4_w8 : w4.heap.size ≤ w8.heap.size := by omega
  try have lt_w4_w8 : w4.heap.size < w8.heap.size := by omega
  have le_w5_w8 : w5.heap.size ≤ w8.heap.size := by omega
  try have lt_w5_w8 : w5.heap.size < w8.heap.size := by omega
  have le_w6_w8 : w6.heap.size ≤ w8.heap.size := by omega
  try have lt_w6_w8 : w6.heap.size < w8.heap.size := by omega
  have le_w7_w8 : w7.heap.size ≤ w8.heap.size := by omega
  try have lt_w7_w8 : w7.heap.size < w8.heap.size := by omega
  go_wp2_with fail
  go_ret
  exact ⟨rfl, by repeat (first | assumption | exact Below.refl _ _ | (with_reducible refine Below.drew ?_) | (with_reducible refine below_drewN' ?_ _) | (with_reducible refine below_al ?_) | ((with_reducible refine below_set ?_ ?_); rotate_left; focus (first | (simp; done) | (simp; omega))))⟩
set_option maxHeartbeats 1000000 in
theorem monthsEras_t_feb2_f (n k : Int) (k1 : -32768 ≤ k) (k2 : k ≤ 32767) (h1 : 1 ≤ n) (h2 : n ≤ 3652059) (he : Mon.okB n 4800 = true) (hy : Mon.okB n 12 = true) (hz : Mon.okB (Mon.endV n) k = false) (m2 : (Cal.mOf n == 2) = true) (d29 : (Cal.dOf n == 29) = false) (w : World) (hL : Laid w) : Calls Tryd.prog 8 #[.int .i64 n, .int .i16 k] w fun e w' => e = .returned (.bool true) ∧ Below w.heap.size w w' := by
  obtain ⟨o1, o2, o3, o4⟩ := of_in h1 h2
  have od := dayB_in h1 h2
  have A := Cal.day_of n h1 h2
  have y1 := A.y1; have y2 := A.y2
  clear A
  have e0 := ok_yes he
  have ev := Mon.era_V n h1 h2 he
  have el : n + 146097 ≤ 3652059 := by
    have q := Mon.era_ok n h1 h2; rw [he] at q; exact of_decide_eq_true q.symm
  have e1 := ok_yes hy
  obtain ⟨x1, x2⟩ := Mon.V_bd (eom := false) hy
  obtain ⟨a1, a2, a3⟩ := Mon.of_V (eom := false) hy
  rw [(Mon.year_YN n h1 h2).1] at a1; rw [(Mon.year_YN n h1 h2).2] at a2
  rw [Mon.year_plain h1 h2 (fun c => absurd c.2 (by simpa using d29))] at a3
  obtain ⟨r1, r2, r3, r4⟩ := of_in x1 x2
  rw [a1] at r1; rw [a2] at r2; rw [a3] at r3
  clear a1 a2 a3
  have e2 := ok_no hz
  have hB : Below w.heap.size w w := Below.refl _ _
  go_enter Tryd.func8, Tryd.ntmps8
  go_wp2_with fail
  refine (shown05_c _ (hL.below (by repeat (first | assumption | exact Below.refl _ _ | (with_reducible refine Below.drew ?_) | (with_reducible refine below_drewN' ?_ _) | (with_reducible refine below_al ?_) | ((with_reducible refine below_set ?_ ?_); rotate_left; focus (first | (simp; done) | (simp; omega))))))).mono ?_; rintro e w1 ⟨rfl, hb1⟩
  have hz1 := hb1.size; (try simp at hz1); obtain ⟨hc1, hf1⟩ := bcell hb1; have hB1 := below_step (w := w) hb1 (by repeat (first | assumption | exact Below.refl _ _ | (with_reducible refine Below.drew ?_) | (with_reducible refine below_drewN' ?_ _) | (with_reducible refine below_al ?_) | ((with_reducible refine below_set ?_ ?_); rotate_left; focus (first | (simp; done) | (simp; omega)))))
  have le_w_w1 : w.heap.size ≤ w1.heap.size := by omega
  try have lt_w_w1 : w.heap.size < w1.heap.size := by omega
  go_wp2_with fail
  refine (rday_c _ _).mono ?_; rintro e w' ⟨rfl, rfl⟩
  go_wp2_with fail
  refine (shift_c _ _ _ (hL.below (by repeat (first | assumption | exact Below.refl _ _ | (with_reducible refine Below.drew ?_) | (with_reducible refine below_drewN' ?_ _) | (with_reducible refine below_al ?_) | ((with_reducible refine below_set ?_ ?_); rotate_left; focus (first | (simp; done) | (simp; omega))))))).mono ?_; rintro e w2 ⟨rfl, hb2⟩
  have hz2 := hb2.size; (try simp at hz2); obtain ⟨hc2, hf2⟩ := bcell hb2; have hB2 := below_step (w := w) hb2 (by repeat (first | assumption | exact Below.refl _ _ | (with_reducible refine Below.drew ?_) | (with_reducible refine below_drewN' ?_ _) | (with_reducible refine below_al ?_) | ((with_reducible refine below_set ?_ ?_); rotate_left; focus (first | (simp; done) | (simp; omega)))))
  have le_w_w2 : w.heap.size ≤ w2.heap.size := by omega
  try have lt_w_w2 : w.heap.size < w2.heap.size := by omega
  have le_w1_w2 : w1.heap.size ≤ w2.heap.size := by omega
  try have lt_w1_w2 : w1.heap.size < w2.heap.size := by omega
  go_wp2_with fail
  refine (shift_c _ _ _ (hL.below (by repeat (first | assumption | exact Below.refl _ _ | (with_reducible refine Below.drew ?_) | (with_reducible refine below_drewN' ?_ _) | (with_reducible refine below_al ?_) | ((with_reducible refine below_set ?_ ?_); rotate_left; focus (first | (simp; done) | (simp; omega))))))).mono ?_; rintro e w3 ⟨rfl, hb3⟩
  have hz3 := hb3.size; (try simp at hz3); obtain ⟨hc3, hf3⟩ := bcell hb3; have hB3 := below_step (w := w) hb3 (by repeat (first | assumption | exact Below.refl _ _ | (with_reducible refine Below.drew ?_) | (with_reducible refine below_drewN' ?_ _) | (with_reducible refine below_al ?_) | ((with_reducible refine below_set ?_ ?_); rotate_left; focus (first | (simp; done) | (simp; omega)))))
  have le_w_w3 : w.heap.size ≤ w3.heap.size := by omega
  try have lt_w_w3 : w.heap.size < w3.heap.size := by omega
  have le_w1_w3 : w1.heap.size ≤ w3.heap.size := by omega
  try have lt_w1_w3 : w1.heap.size < w3.heap.size := by omega
  have le_w2_w3 : w2.heap.size ≤ w3.heap.size := by omega
  try have lt_w2_w3 : w2.heap.size < w3.heap.size := by omega
  go_wp2_with fail
  refine (rof_c _ _).mono ?_; rintro e w4 ⟨rfl, hb4⟩
  have hz4 := hb4.size; (try simp at hz4); obtain ⟨hc4, hf4⟩ := bcell hb4; have hB4 := below_step (w := w) hb4 (by repeat (first | assumption | exact Below.refl _ _ | (with_reducible refine Below.drew ?_) | (with_reducible refine below_drewN' ?_ _) | (with_reducible refine below_al ?_) | ((with_reducible refine below_set ?_ ?_); rotate_left; focus (first | (simp; done) | (simp; omega)))))
  have le_w_w4 : w.heap.size ≤ w4.heap.size := by omega
  try have lt_w_w4 : w.heap.size < w4.heap.size := by omega
  have le_w1_w4 : w1.heap.size ≤ w4.heap.size := by omega
  try have lt_w1_w4 : w1.heap.size < w4.heap.size := by omega
  have le_w2_w4 : w2.heap.size ≤ w4.heap.size := by omega
  try have lt_w2_w4 : w2.heap.size < w4.heap.size := by omega
  have le_w3_w4 : w3.heap.size ≤ w4.heap.size := by omega
  try have lt_w3_w4 : w3.heap.size < w4.heap.size := by omega
  go_wp2_with fail
  refine (rof_c _ _).mono ?_; rintro e w5 ⟨rfl, hb5⟩
  have hz5 := hb5.size; (try simp at hz5); obtain ⟨hc5, hf5⟩ := bcell hb5; have hB5 := below_step (w := w) hb5 (by repeat (first | assumption | exact Below.refl _ _ | (with_reducible refine Below.drew ?_) | (with_reducible refine below_drewN' ?_ _) | (with_reducible refine below_al ?_) | ((with_reducible refine below_set ?_ ?_); rotate_left; focus (first | (simp; done) | (simp; omega)))))
  have le_w_w5 : w.heap.size ≤ w5.heap.size := by omega
  try have lt_w_w5 : w.heap.size < w5.heap.size := by omega
  have le_w1_w5 : w1.heap.size ≤ w5.heap.size := by omega
  try have lt_w1_w5 : w1.heap.size < w5.heap.size := by omega
  have le_w2_w5 : w2.heap.size ≤ w5.heap.size := by omega
  try have lt_w2_w5 : w2.heap.size < w5.heap.size := by omega
  have le_w3_w5 : w3.heap.size ≤ w5.heap.size := by omega
  try have lt_w3_w5 : w3.heap.size < w5.heap.size := by omega
  have le_w4_w5 : w4.heap.size ≤ w5.heap.size := by omega
  try have lt_w4_w5 : w4.heap.size < w5.heap.size := by omega
  go_wp2_with fail
  refine (rend_c _ _).mono ?_; rintro e w6 ⟨rfl, hb6⟩
  have hz6 := hb6.size; (try simp at hz6); obtain ⟨hc6, hf6⟩ := bcell hb6; have hB6 := below_step (w := w) hb6 (by repeat (first | assumption | exact Below.refl _ _ | (with_reducible refine Below.drew ?_) | (with_reducible refine below_drewN' ?_ _) | (with_reducible refine below_al ?_) | ((with_reducible refine below_set ?_ ?_); rotate_left; focus (first | (simp; done) | (simp; omega)))))
  have le_w_w6 : w.heap.size ≤ w6.heap.size := by omega
  try have lt_w_w6 : w.heap.size < w6.heap.size := by omega
  have le_w1_w6 : w1.heap.size ≤ w6.heap.size := by omega
  try have lt_w1_w6 : w1.heap.size < w6.heap.size := by omega
  have le_w2_w6 : w2.heap.size ≤ w6.heap.size := by omega
  try have lt_w2_w6 : w2.heap.size < w6.heap.size := by omega
  have le_w3_w6 : w3.heap.size ≤ w6.heap.size := by omega
  try have lt_w3_w6 : w3.heap.size < w6.heap.size := by omega
  have le_w4_w6 : w4.heap.size ≤ w6.heap.size := by omega
  try have lt_w4_w6 : w4.heap.size < w6.heap.size := by omega
  have le_w5_w6 : w5.heap.size ≤ w6.heap.size := by omega
  try have lt_w5_w6 : w5.heap.size < w6.heap.size := by omega
  go_wp2_with fail
  refine (move_c _ _ _ _ (hL.below (by repeat (first | assumption | exact Below.refl _ _ | (with_reducible refine Below.drew ?_) | (with_reducible refine below_drewN' ?_ _) | (with_reducible refine below_al ?_) | ((with_reducible refine below_set ?_ ?_); rotate_left; focus (first | (simp; done) | (simp; omega))))))).mono ?_; rintro e w7 ⟨rfl, hb7⟩
  have hz7 := hb7.size; (try simp at hz7); obtain ⟨hc7, hf7⟩ := bcell hb7; have hB7 := below_step (w := w) hb7 (by repeat (first | assumption | exact Below.refl _ _ | (with_reducible refine Below.drew ?_) | (with_reducible refine below_drewN' ?_ _) | (with_reducible refine below_al ?_) | ((with_reducible refine below_set ?_ ?_); rotate_left; focus (first | (simp; done) | (simp; omega)))))
  have le_w_w7 : w.heap.size ≤ w7.heap.size := by omega
  try have lt_w_w7 : w.heap.size < w7.heap.size := by omega
  have le_w1_w7 : w1.heap.size ≤ w7.heap.size := by omega
  try have lt_w1_w7 : w1.heap.size < w7.heap.size := by omega
  have le_w2_w7 : w2.heap.size ≤ w7.heap.size := by omega
  try have lt_w2_w7 : w2.heap.size < w7.heap.size := by omega
  have le_w3_w7 : w3.heap.size ≤ w7.heap.size := by omega
  try have lt_w3_w7 : w3.heap.size < w7.heap.size := by omega
  have le_w4_w7 : w4.heap.size ≤ w7.heap.size := by omega
  try have lt_w4_w7 : w4.heap.size < w7.heap.size := by omega
  have le_w5_w7 : w5.heap.size ≤ w7.heap.size := by omega
  try have lt_w5_w7 : w5.heap.size < w7.heap.size := by omega
  have le_w6_w7 : w6.heap.size ≤ w7.heap.size := by omega
  try have lt_w6_w7 : w6.heap.size < w7.heap.size := by omega
  go_wp2_with fail
  go_ret
  exact ⟨rfl, by repeat (first | assumption | exact Below.refl _ _ | (with_reducible refine Below.drew ?_) | (with_reducible refine below_drewN' ?_ _) | (with_reducible refine below_al ?_) | ((with_reducible refine below_set ?_ ?_); rotate_left; focus (first | (simp; done) | (simp; omega))))⟩
set_option maxHeartbeats 1000000 in
theorem monthsEras_t_pl_t (n k : Int) (k1 : -32768 ≤ k) (k2 : k ≤ 32767) (h1 : 1 ≤ n) (h2 : n ≤ 3652059) (he : Mon.okB n 4800 = true) (hy : Mon.okB n 12 = true) (hz : Mon.okB (Mon.endV n) k = true) (m2 : (Cal.mOf n == 2) = false) (w : World) (hL : Laid w) : Calls Tryd.prog 8 #[.int .i64 n, .int .i16 k] w fun e w' => e = .returned (.bool true) ∧ Below w.heap.size w w' := by
  obtain ⟨o1, o2, o3, o4⟩ := of_in h1 h2
  have od := dayB_in h1 h2
  have A := Cal.day_of n h1 h2
  have y1 := A.y1; have y2 := A.y2
  clear A
  have e0 := ok_yes he
  have ev := Mon.era_V n h1 h2 he
  have el : n + 146097 ≤ 3652059 := by
    have q := Mon.era_ok n h1 h2; rw [he] at q; exact of_decide_eq_true q.symm
  have e1 := ok_yes hy
  obtain ⟨x1, x2⟩ := Mon.V_bd (eom := false) hy
  obtain ⟨a1, a2, a3⟩ := Mon.of_V (eom := false) hy
  rw [(Mon.year_YN n h1 h2).1] at a1; rw [(Mon.year_YN n h1 h2).2] at a2
  rw [Mon.year_plain h1 h2 (fun c => absurd c.1 (by simpa using m2))] at a3
  obtain ⟨r1, r2, r3, r4⟩ := of_in x1 x2
  rw [a1] at r1; rw [a2] at r2; rw [a3] at r3
  clear a1 a2 a3
  have e2 := ok_yes hz
  have ez := Mon.end_move h1 h2 hz
  have hB : Below w.heap.size w w := Below.refl _ _
  go_enter Tryd.func8, Tryd.ntmps8
  go_wp2_with fail
  refine (shown05_c _ (hL.below (by repeat (first | assumption | exact Below.refl _ _ | (with_reducible refine Below.drew ?_) | (with_reducible refine below_drewN' ?_ _) | (with_reducible refine below_al ?_) | ((with_reducible refine below_set ?_ ?_); rotate_left; focus (first | (simp; done) | (simp; omega))))))).mono ?_; rintro e w1 ⟨rfl, hb1⟩
  have hz1 := hb1.size; (try simp at hz1); obtain ⟨hc1, hf1⟩ := bcell hb1; have hB1 := below_step (w := w) hb1 (by repeat (first | assumption | exact Below.refl _ _ | (with_reducible refine Below.drew ?_) | (with_reducible refine below_drewN' ?_ _) | (with_reducible refine below_al ?_) | ((with_reducible refine below_set ?_ ?_); rotate_left; focus (first | (simp; done) | (simp; omega)))))
  have le_w_w1 : w.heap.size ≤ w1.heap.size := by omega
  try have lt_w_w1 : w.heap.size < w1.heap.size := by omega
  go_wp2_with fail
  refine (rday_c _ _).mono ?_; rintro e w' ⟨rfl, rfl⟩
  go_wp2_with fail
  refine (shift_c _ _ _ (hL.below (by repeat (first | assumption | exact Below.refl _ _ | (with_reducible refine Below.drew ?_) | (with_reducible refine below_drewN' ?_ _) | (with_reducible refine below_al ?_) | ((with_reducible refine below_set ?_ ?_); rotate_left; focus (first | (simp; done) | (simp; omega))))))).mono ?_; rintro e w2 ⟨rfl, hb2⟩
  have hz2 := hb2.size; (try simp at hz2); obtain ⟨hc2, hf2⟩ := bcell hb2; have hB2 := below_step (w := w) hb2 (by repeat (first | assumption | exact Below.refl _ _ | (with_reducible refine Below.drew ?_) | (with_reducible refine below_drewN' ?_ _) | (with_reducible refine below_al ?_) | ((with_reducible refine below_set ?_ ?_); rotate_left; focus (first | (simp; done) | (simp; omega)))))
  have le_w_w2 : w.heap.size ≤ w2.heap.size := by omega
  try have lt_w_w2 : w.heap.size < w2.heap.size := by omega
  have le_w1_w2 : w1.heap.size ≤ w2.heap.size := by omega
  try have lt_w1_w2 : w1.heap.size < w2.heap.size := by omega
  go_wp2_with fail
  refine (shift_c _ _ _ (hL.below (by repeat (first | assumption | exact Below.refl _ _ | (with_reducible refine Below.drew ?_) | (with_reducible refine below_drewN' ?_ _) | (with_reducible refine below_al ?_) | ((with_reducible refine below_set ?_ ?_); rotate_left; focus (first | (simp; done) | (simp; omega))))))).mono ?_; rintro e w3 ⟨rfl, hb3⟩
  have hz3 := hb3.size; (try simp at hz3); obtain ⟨hc3, hf3⟩ := bcell hb3; have hB3 := below_step (w := w) hb3 (by repeat (first | assumption | exact Below.refl _ _ | (with_reducible refine Below.drew ?_) | (with_reducible refine below_drewN' ?_ _) | (with_reducible refine below_al ?_) | ((with_reducible refine below_set ?_ ?_); rotate_left; focus (first | (simp; done) | (simp; omega)))))
  have le_w_w3 : w.heap.size ≤ w3.heap.size := by omega
  try have lt_w_w3 : w.heap.size < w3.heap.size := by omega
  have le_w1_w3 : w1.heap.size ≤ w3.heap.size := by omega
  try have lt_w1_w3 : w1.heap.size < w3.heap.size := by omega
  have le_w2_w3 : w2.heap.size ≤ w3.heap.size := by omega
  try have lt_w2_w3 : w2.heap.size < w3.heap.size := by omega
  go_wp2_with fail
  refine (rof_c _ _).mono ?_; rintro e w4 ⟨rfl, hb4⟩
  have hz4 := hb4.size; (try simp at hz4); obtain ⟨hc4, hf4⟩ := bcell hb4; have hB4 := below_step (w := w) hb4 (by repeat (first | assumption | exact Below.refl _ _ | (with_reducible refine Below.drew ?_) | (with_reducible refine below_drewN' ?_ _) | (with_reducible refine below_al ?_) | ((with_reducible refine below_set ?_ ?_); rotate_left; focus (first | (simp; done) | (simp; omega)))))
  have le_w_w4 : w.heap.size ≤ w4.heap.size := by omega
  try have lt_w_w4 : w.heap.size < w4.heap.size := by omega
  have le_w1_w4 : w1.heap.size ≤ w4.heap.size := by omega
  try have lt_w1_w4 : w1.heap.size < w4.heap.size := by omega
  have le_w2_w4 : w2.heap.size ≤ w4.heap.size := by omega
  try have lt_w2_w4 : w2.heap.size < w4.heap.size := by omega
  have le_w3_w4 : w3.heap.size ≤ w4.heap.size := by omega
  try have lt_w3_w4 : w3.heap.size < w4.heap.size := by omega
  go_wp2_with fail
  refine (rof_c _ _).mono ?_; rintro e w5 ⟨rfl, hb5⟩
  have hz5 := hb5.size; (try simp at hz5); obtain ⟨hc5, hf5⟩ := bcell hb5; have hB5 := below_step (w := w) hb5 (by repeat (first | assumption | exact Below.refl _ _ | (with_reducible refine Below.drew ?_) | (with_reducible refine below_drewN' ?_ _) | (with_reducible refine below_al ?_) | ((with_reducible refine below_set ?_ ?_); rotate_left; focus (first | (simp; done) | (simp; omega)))))
  have le_w_w5 : w.heap.size ≤ w5.heap.size := by omega
  try have lt_w_w5 : w.heap.size < w5.heap.size := by omega
  have le_w1_w5 : w1.heap.size ≤ w5.heap.size := by omega
  try have lt_w1_w5 : w1.heap.size < w5.heap.size := by omega
  have le_w2_w5 : w2.heap.size ≤ w5.heap.size := by omega
  try have lt_w2_w5 : w2.heap.size < w5.heap.size := by omega
  have le_w3_w5 : w3.heap.size ≤ w5.heap.size := by omega
  try have lt_w3_w5 : w3.heap.size < w5.heap.size := by omega
  have le_w4_w5 : w4.heap.size ≤ w5.heap.size := by omega
  try have lt_w4_w5 : w4.heap.size < w5.heap.size := by omega
  go_wp2_with fail
  refine (rend_c _ _).mono ?_; rintro e w6 ⟨rfl, hb6⟩
  have hz6 := hb6.size; (try simp at hz6); obtain ⟨hc6, hf6⟩ := bcell hb6; have hB6 := below_step (w := w) hb6 (by repeat (first | assumption | exact Below.refl _ _ | (with_reducible refine Below.drew ?_) | (with_reducible refine below_drewN' ?_ _) | (with_reducible refine below_al ?_) | ((with_reducible refine below_set ?_ ?_); rotate_left; focus (first | (simp; done) | (simp; omega)))))
  have le_w_w6 : w.heap.size ≤ w6.heap.size := by omega
  try have lt_w_w6 : w.heap.size < w6.heap.size := by omega
  have le_w1_w6 : w1.heap.size ≤ w6.heap.size := by omega
  try have lt_w1_w6 : w1.heap.size < w6.heap.size := by omega
  have le_w2_w6 : w2.heap.size ≤ w6.heap.size := by omega
  try have lt_w2_w6 : w2.heap.size < w6.heap.size := by omega
  have le_w3_w6 : w3.heap.size ≤ w6.heap.size := by omega
  try have lt_w3_w6 : w3.heap.size < w6.heap.size := by omega
  have le_w4_w6 : w4.heap.size ≤ w6.heap.size := by omega
  try have lt_w4_w6 : w4.heap.size < w6.heap.size := by omega
  have le_w5_w6 : w5.heap.size ≤ w6.heap.size := by omega
  try have lt_w5_w6 : w5.heap.size < w6.heap.size := by omega
  go_wp2_with fail
  refine (move_c _ _ _ _ (hL.below (by repeat (first | assumption | exact Below.refl _ _ | (with_reducible refine Below.drew ?_) | (with_reducible refine below_drewN' ?_ _) | (with_reducible refine below_al ?_) | ((with_reducible refine below_set ?_ ?_); rotate_left; focus (first | (simp; done) | (simp; omega))))))).mono ?_; rintro e w7 ⟨rfl, hb7⟩
  have hz7 := hb7.size; (try simp at hz7); obtain ⟨hc7, hf7⟩ := bcell hb7; have hB7 := below_step (w := w) hb7 (by repeat (first | assumption | exact Below.refl _ _ | (with_reducible refine Below.drew ?_) | (with_reducible refine below_drewN' ?_ _) | (with_reducible refine below_al ?_) | ((with_reducible refine below_set ?_ ?_); rotate_left; focus (first | (simp; done) | (simp; omega)))))
  have le_w_w7 : w.heap.size ≤ w7.heap.size := by omega
  try have lt_w_w7 : w.heap.size < w7.heap.size := by omega
  have le_w1_w7 : w1.heap.size ≤ w7.heap.size := by omega
  try have lt_w1_w7 : w1.heap.size < w7.heap.size := by omega
  have le_w2_w7 : w2.heap.size ≤ w7.heap.size := by omega
  try have lt_w2_w7 : w2.heap.size < w7.heap.size := by omega
  have le_w3_w7 : w3.heap.size ≤ w7.heap.size := by omega
  try have lt_w3_w7 : w3.heap.size < w7.heap.size := by omega
  have le_w4_w7 : w4.heap.size ≤ w7.heap.size := by omega
  try have lt_w4_w7 : w4.heap.size < w7.heap.size := by omega
  have le_w5_w7 : w5.heap.size ≤ w7.heap.size := by omega
  try have lt_w5_w7 : w5.heap.size < w7.heap.size := by omega
  have le_w6_w7 : w6.heap.size ≤ w7.heap.size := by omega
  try have lt_w6_w7 : w6.heap.size < w7.heap.size := by omega
  go_wp2_with fail
  refine (last_c _ _ (hL.below (by repeat (first | assumption | exact Below.refl _ _ | (with_reducible refine Below.drew ?_) | (with_reducible refine below_drewN' ?_ _) | (with_reducible refine below_al ?_) | ((with_reducible refine below_set ?_ ?_); rotate_left; focus (first | (simp; done) | (simp; omega))))))).mono ?_; rintro e w8 ⟨rfl, hb8⟩
  have hz8 := hb8.size; (try simp at hz8); obtain ⟨hc8, hf8⟩ := bcell hb8; have hB8 := below_step (w := w) hb8 (by repeat (first | assumption | exact Below.refl _ _ | (with_reducible refine Below.drew ?_) | (with_reducible refine below_drewN' ?_ _) | (with_reducible refine below_al ?_) | ((with_reducible refine below_set ?_ ?_); rotate_left; focus (first | (simp; done) | (simp; omega)))))
  have le_w_w8 : w.heap.size ≤ w8.heap.size := by omega
  try have lt_w_w8 : w.heap.size < w8.heap.size := by omega
  have le_w1_w8 : w1.heap.size ≤ w8.heap.size := by omega
  try have lt_w1_w8 : w1.heap.size < w8.heap.size := by omega
  have le_w2_w8 : w2.heap.size ≤ w8.heap.size := by omega
  try have lt_w2_w8 : w2.heap.size < w8.heap.size := by omega
  have le_w3_w8 : w3.heap.size ≤ w8.heap.size := by omega
  try have lt_w3_w8 : w3.heap.size < w8.heap.size := by omega
  have le_w4_w8 : w4.heap.size ≤ w8.heap.size := by omega
  try have lt_w4_w8 : w4.heap.size < w8.heap.size := by omega
  have le_w5_w8 : w5.heap.size ≤ w8.heap.size := by omega
  try have lt_w5_w8 : w5.heap.size < w8.heap.size := by omega
  have le_w6_w8 : w6.heap.size ≤ w8.heap.size := by omega
  try have lt_w6_w8 : w6.heap.size < w8.heap.size := by omega
  have le_w7_w8 : w7.heap.size ≤ w8.heap.size := by omega
  try have lt_w7_w8 : w7.heap.size < w8.heap.size := by omega
  go_wp2_with fail
  go_ret
  exact ⟨rfl, by repeat (first | assumption | exact Below.refl _ _ | (with_reducible refine Below.drew ?_) | (with_reducible refine below_drewN' ?_ _) | (with_reducible refine below_al ?_) | ((with_reducible refine below_set ?_ ?_); rotate_left; focus (first | (simp; done) | (simp; omega))))⟩
set_option maxHeartbeats 1000000 in
theorem monthsEras_t_pl_f (n k : Int) (k1 : -32768 ≤ k) (k2 : k ≤ 32767) (h1 : 1 ≤ n) (h2 : n ≤ 3652059) (he : Mon.okB n 4800 = true) (hy : Mon.okB n 12 = true) (hz : Mon.okB (Mon.endV n) k = false) (m2 : (Cal.mOf n == 2) = false) (w : World) (hL : Laid w) : Calls Tryd.prog 8 #[.int .i64 n, .int .i16 k] w fun e w' => e = .returned (.bool true) ∧ Below w.heap.size w w' := by
  obtain ⟨o1, o2, o3, o4⟩ := of_in h1 h2
  have od := dayB_in h1 h2
  have A := Cal.day_of n h1 h2
  have y1 := A.y1; have y2 := A.y2
  clear A
  have e0 := ok_yes he
  have ev := Mon.era_V n h1 h2 he
  have el : n + 146097 ≤ 3652059 := by
    have q := Mon.era_ok n h1 h2; rw [he] at q; exact of_decide_eq_true q.symm
  have e1 := ok_yes hy
  obtain ⟨x1, x2⟩ := Mon.V_bd (eom := false) hy
  obtain ⟨a1, a2, a3⟩ := Mon.of_V (eom := false) hy
  rw [(Mon.year_YN n h1 h2).1] at a1; rw [(Mon.year_YN n h1 h2).2] at a2
  rw [Mon.year_plain h1 h2 (fun c => absurd c.1 (by simpa using m2))] at a3
  obtain ⟨r1, r2, r3, r4⟩ := of_in x1 x2
  rw [a1] at r1; rw [a2] at r2; rw [a3] at r3
  clear a1 a2 a3
  have e2 := ok_no hz
  have hB : Below w.heap.size w w := Below.refl _ _
  go_enter Tryd.func8, Tryd.ntmps8
  go_wp2_with fail
  refine (shown05_c _ (hL.below (by repeat (first | assumption | exact Below.refl _ _ | (with_reducible refine Below.drew ?_) | (with_reducible refine below_drewN' ?_ _) | (with_reducible refine below_al ?_) | ((with_reducible refine below_set ?_ ?_); rotate_left; focus (first | (simp; done) | (simp; omega))))))).mono ?_; rintro e w1 ⟨rfl, hb1⟩
  have hz1 := hb1.size; (try simp at hz1); obtain ⟨hc1, hf1⟩ := bcell hb1; have hB1 := below_step (w := w) hb1 (by repeat (first | assumption | exact Below.refl _ _ | (with_reducible refine Below.drew ?_) | (with_reducible refine below_drewN' ?_ _) | (with_reducible refine below_al ?_) | ((with_reducible refine below_set ?_ ?_); rotate_left; focus (first | (simp; done) | (simp; omega)))))
  have le_w_w1 : w.heap.size ≤ w1.heap.size := by omega
  try have lt_w_w1 : w.heap.size < w1.heap.size := by omega
  go_wp2_with fail
  refine (rday_c _ _).mono ?_; rintro e w' ⟨rfl, rfl⟩
  go_wp2_with fail
  refine (shift_c _ _ _ (hL.below (by repeat (first | assumption | exact Below.refl _ _ | (with_reducible refine Below.drew ?_) | (with_reducible refine below_drewN' ?_ _) | (with_reducible refine below_al ?_) | ((with_reducible refine below_set ?_ ?_); rotate_left; focus (first | (simp; done) | (simp; omega))))))).mono ?_; rintro e w2 ⟨rfl, hb2⟩
  have hz2 := hb2.size; (try simp at hz2); obtain ⟨hc2, hf2⟩ := bcell hb2; have hB2 := below_step (w := w) hb2 (by repeat (first | assumption | exact Below.refl _ _ | (with_reducible refine Below.drew ?_) | (with_reducible refine below_drewN' ?_ _) | (with_reducible refine below_al ?_) | ((with_reducible refine below_set ?_ ?_); rotate_left; focus (first | (simp; done) | (simp; omega)))))
  have le_w_w2 : w.heap.size ≤ w2.heap.size := by omega
  try have lt_w_w2 : w.heap.size < w2.heap.size := by omega
  have le_w1_w2 : w1.heap.size ≤ w2.heap.size := by omega
  try have lt_w1_w2 : w1.heap.size < w2.heap.size := by omega
  go_wp2_with fail
  refine (shift_c _ _ _ (hL.below (by repeat (first | assumption | exact Below.refl _ _ | (with_reducible refine Below.drew ?_) | (with_reducible refine below_drewN' ?_ _) | (with_reducible refine below_al ?_) | ((with_reducible refine below_set ?_ ?_); rotate_left; focus (first | (simp; done) | (simp; omega))))))).mono ?_; rintro e w3 ⟨rfl, hb3⟩
  have hz3 := hb3.size; (try simp at hz3); obtain ⟨hc3, hf3⟩ := bcell hb3; have hB3 := below_step (w := w) hb3 (by repeat (first | assumption | exact Below.refl _ _ | (with_reducible refine Below.drew ?_) | (with_reducible refine below_drewN' ?_ _) | (with_reducible refine below_al ?_) | ((with_reducible refine below_set ?_ ?_); rotate_left; focus (first | (simp; done) | (simp; omega)))))
  have le_w_w3 : w.heap.size ≤ w3.heap.size := by omega
  try have lt_w_w3 : w.heap.size < w3.heap.size := by omega
  have le_w1_w3 : w1.heap.size ≤ w3.heap.size := by omega
  try have lt_w1_w3 : w1.heap.size < w3.heap.size := by omega
  have le_w2_w3 : w2.heap.size ≤ w3.heap.size := by omega
  try have lt_w2_w3 : w2.heap.size < w3.heap.size := by omega
  go_wp2_with fail
  refine (rof_c _ _).mono ?_; rintro e w4 ⟨rfl, hb4⟩
  have hz4 := hb4.size; (try simp at hz4); obtain ⟨hc4, hf4⟩ := bcell hb4; have hB4 := below_step (w := w) hb4 (by repeat (first | assumption | exact Below.refl _ _ | (with_reducible refine Below.drew ?_) | (with_reducible refine below_drewN' ?_ _) | (with_reducible refine below_al ?_) | ((with_reducible refine below_set ?_ ?_); rotate_left; focus (first | (simp; done) | (simp; omega)))))
  have le_w_w4 : w.heap.size ≤ w4.heap.size := by omega
  try have lt_w_w4 : w.heap.size < w4.heap.size := by omega
  have le_w1_w4 : w1.heap.size ≤ w4.heap.size := by omega
  try have lt_w1_w4 : w1.heap.size < w4.heap.size := by omega
  have le_w2_w4 : w2.heap.size ≤ w4.heap.size := by omega
  try have lt_w2_w4 : w2.heap.size < w4.heap.size := by omega
  have le_w3_w4 : w3.heap.size ≤ w4.heap.size := by omega
  try have lt_w3_w4 : w3.heap.size < w4.heap.size := by omega
  go_wp2_with fail
  refine (rof_c _ _).mono ?_; rintro e w5 ⟨rfl, hb5⟩
  have hz5 := hb5.size; (try simp at hz5); obtain ⟨hc5, hf5⟩ := bcell hb5; have hB5 := below_step (w := w) hb5 (by repeat (first | assumption | exact Below.refl _ _ | (with_reducible refine Below.drew ?_) | (with_reducible refine below_drewN' ?_ _) | (with_reducible refine below_al ?_) | ((with_reducible refine below_set ?_ ?_); rotate_left; focus (first | (simp; done) | (simp; omega)))))
  have le_w_w5 : w.heap.size ≤ w5.heap.size := by omega
  try have lt_w_w5 : w.heap.size < w5.heap.size := by omega
  have le_w1_w5 : w1.heap.size ≤ w5.heap.size := by omega
  try have lt_w1_w5 : w1.heap.size < w5.heap.size := by omega
  have le_w2_w5 : w2.heap.size ≤ w5.heap.size := by omega
  try have lt_w2_w5 : w2.heap.size < w5.heap.size := by omega
  have le_w3_w5 : w3.heap.size ≤ w5.heap.size := by omega
  try have lt_w3_w5 : w3.heap.size < w5.heap.size := by omega
  have le_w4_w5 : w4.heap.size ≤ w5.heap.size := by omega
  try have lt_w4_w5 : w4.heap.size < w5.heap.size := by omega
  go_wp2_with fail
  refine (rend_c _ _).mono ?_; rintro e w6 ⟨rfl, hb6⟩
  have hz6 := hb6.size; (try simp at hz6); obtain ⟨hc6, hf6⟩ := bcell hb6; have hB6 := below_step (w := w) hb6 (by repeat (first | assumption | exact Below.refl _ _ | (with_reducible refine Below.drew ?_) | (with_reducible refine below_drewN' ?_ _) | (with_reducible refine below_al ?_) | ((with_reducible refine below_set ?_ ?_); rotate_left; focus (first | (simp; done) | (simp; omega)))))
  have le_w_w6 : w.heap.size ≤ w6.heap.size := by omega
  try have lt_w_w6 : w.heap.size < w6.heap.size := by omega
  have le_w1_w6 : w1.heap.size ≤ w6.heap.size := by omega
  try have lt_w1_w6 : w1.heap.size < w6.heap.size := by omega
  have le_w2_w6 : w2.heap.size ≤ w6.heap.size := by omega
  try have lt_w2_w6 : w2.heap.size < w6.heap.size := by omega
  have le_w3_w6 : w3.heap.size ≤ w6.heap.size := by omega
  try have lt_w3_w6 : w3.heap.size < w6.heap.size := by omega
  have le_w4_w6 : w4.heap.size ≤ w6.heap.size := by omega
  try have lt_w4_w6 : w4.heap.size < w6.heap.size := by omega
  have le_w5_w6 : w5.heap.size ≤ w6.heap.size := by omega
  try have lt_w5_w6 : w5.heap.size < w6.heap.size := by omega
  go_wp2_with fail
  refine (move_c _ _ _ _ (hL.below (by repeat (first | assumption | exact Below.refl _ _ | (with_reducible refine Below.drew ?_) | (with_reducible refine below_drewN' ?_ _) | (with_reducible refine below_al ?_) | ((with_reducible refine below_set ?_ ?_); rotate_left; focus (first | (simp; done) | (simp; omega))))))).mono ?_; rintro e w7 ⟨rfl, hb7⟩
  have hz7 := hb7.size; (try simp at hz7); obtain ⟨hc7, hf7⟩ := bcell hb7; have hB7 := below_step (w := w) hb7 (by repeat (first | assumption | exact Below.refl _ _ | (with_reducible refine Below.drew ?_) | (with_reducible refine below_drewN' ?_ _) | (with_reducible refine below_al ?_) | ((with_reducible refine below_set ?_ ?_); rotate_left; focus (first | (simp; done) | (simp; omega)))))
  have le_w_w7 : w.heap.size ≤ w7.heap.size := by omega
  try have lt_w_w7 : w.heap.size < w7.heap.size := by omega
  have le_w1_w7 : w1.heap.size ≤ w7.heap.size := by omega
  try have lt_w1_w7 : w1.heap.size < w7.heap.size := by omega
  have le_w2_w7 : w2.heap.size ≤ w7.heap.size := by omega
  try have lt_w2_w7 : w2.heap.size < w7.heap.size := by omega
  have le_w3_w7 : w3.heap.size ≤ w7.heap.size := by omega
  try have lt_w3_w7 : w3.heap.size < w7.heap.size := by omega
  have le_w4_w7 : w4.heap.size ≤ w7.heap.size := by omega
  try have lt_w4_w7 : w4.heap.size < w7.heap.size := by omega
  have le_w5_w7 : w5.heap.size ≤ w7.heap.size := by omega
  try have lt_w5_w7 : w5.heap.size < w7.heap.size := by omega
  have le_w6_w7 : w6.heap.size ≤ w7.heap.size := by omega
  try have lt_w6_w7 : w6.heap.size < w7.heap.size := by omega
  go_wp2_with fail
  go_ret
  exact ⟨rfl, by repeat (first | assumption | exact Below.refl _ _ | (with_reducible refine Below.drew ?_) | (with_reducible refine below_drewN' ?_ _) | (with_reducible refine below_al ?_) | ((with_reducible refine below_set ?_ ?_); rotate_left; focus (first | (simp; done) | (simp; omega))))⟩
set_option maxHeartbeats 1000000 in
theorem monthsEras_f_no_t (n k : Int) (k1 : -32768 ≤ k) (k2 : k ≤ 32767) (h1 : 1 ≤ n) (h2 : n ≤ 3652059) (he : Mon.okB n 4800 = false) (hy : Mon.okB n 12 = false) (hz : Mon.okB (Mon.endV n) k = true) (w : World) (hL : Laid w) : Calls Tryd.prog 8 #[.int .i64 n, .int .i16 k] w fun e w' => e = .returned (.bool true) ∧ Below w.heap.size w w' := by
  obtain ⟨o1, o2, o3, o4⟩ := of_in h1 h2
  have od := dayB_in h1 h2
  have A := Cal.day_of n h1 h2
  have y1 := A.y1; have y2 := A.y2
  clear A
  have e0 := ok_no he
  have el : ¬ n + 146097 ≤ 3652059 := by
    have q := Mon.era_ok n h1 h2; rw [he] at q; exact of_decide_eq_false q.symm
  have e1 := ok_no hy
  have e2 := ok_yes hz
  have ez := Mon.end_move h1 h2 hz
  have hB : Below w.heap.size w w := Below.refl _ _
  go_enter Tryd.func8, Tryd.ntmps8
  go_wp2_with fail
  refine (shown05_c _ (hL.below (by repeat (first | assumption | exact Below.refl _ _ | (with_reducible refine Below.drew ?_) | (with_reducible refine below_drewN' ?_ _) | (with_reducible refine below_al ?_) | ((with_reducible refine below_set ?_ ?_); rotate_left; focus (first | (simp; done) | (simp; omega))))))).mono ?_; rintro e w1 ⟨rfl, hb1⟩
  have hz1 := hb1.size; (try simp at hz1); obtain ⟨hc1, hf1⟩ := bcell hb1; have hB1 := below_step (w := w) hb1 (by repeat (first | assumption | exact Below.refl _ _ | (with_reducible refine Below.drew ?_) | (with_reducible refine below_drewN' ?_ _) | (with_reducible refine below_al ?_) | ((with_reducible refine below_set ?_ ?_); rotate_left; focus (first | (simp; done) | (simp; omega)))))
  have le_w_w1 : w.heap.size ≤ w1.heap.size := by omega
  try have lt_w_w1 : w.heap.size < w1.heap.size := by omega
  go_wp2_with fail
  refine (rday_c _ _).mono ?_; rintro e w' ⟨rfl, rfl⟩
  go_wp2_with fail
  refine (shift_c _ _ _ (hL.below (by repeat (first | assumption | exact Below.refl _ _ | (with_reducible refine Below.drew ?_) | (with_reducible refine below_drewN' ?_ _) | (with_reducible refine below_al ?_) | ((with_reducible refine below_set ?_ ?_); rotate_left; focus (first | (simp; done) | (simp; omega))))))).mono ?_; rintro e w2 ⟨rfl, hb2⟩
  have hz2 := hb2.size; (try simp at hz2); obtain ⟨hc2, hf2⟩ := bcell hb2; have hB2 := below_step (w := w) hb2 (by repeat (first | assumption | exact Below.refl _ _ | (with_reducible refine Below.drew ?_) | (with_reducible refine below_drewN' ?_ _) | (with_reducible refine below_al ?_) | ((with_reducible refine below_set ?_ ?_); rotate_left; focus (first | (simp; done) | (simp; omega)))))
  have le_w_w2 : w.heap.size ≤ w2.heap.size := by omega
  try have lt_w_w2 : w.heap.size < w2.heap.size := by omega
  have le_w1_w2 : w1.heap.size ≤ w2.heap.size := by omega
  try have lt_w1_w2 : w1.heap.size < w2.heap.size := by omega
  go_wp2_with fail
  refine (shift_c _ _ _ (hL.below (by repeat (first | assumption | exact Below.refl _ _ | (with_reducible refine Below.drew ?_) | (with_reducible refine below_drewN' ?_ _) | (with_reducible refine below_al ?_) | ((with_reducible refine below_set ?_ ?_); rotate_left; focus (first | (simp; done) | (simp; omega))))))).mono ?_; rintro e w3 ⟨rfl, hb3⟩
  have hz3 := hb3.size; (try simp at hz3); obtain ⟨hc3, hf3⟩ := bcell hb3; have hB3 := below_step (w := w) hb3 (by repeat (first | assumption | exact Below.refl _ _ | (with_reducible refine Below.drew ?_) | (with_reducible refine below_drewN' ?_ _) | (with_reducible refine below_al ?_) | ((with_reducible refine below_set ?_ ?_); rotate_left; focus (first | (simp; done) | (simp; omega)))))
  have le_w_w3 : w.heap.size ≤ w3.heap.size := by omega
  try have lt_w_w3 : w.heap.size < w3.heap.size := by omega
  have le_w1_w3 : w1.heap.size ≤ w3.heap.size := by omega
  try have lt_w1_w3 : w1.heap.size < w3.heap.size := by omega
  have le_w2_w3 : w2.heap.size ≤ w3.heap.size := by omega
  try have lt_w2_w3 : w2.heap.size < w3.heap.size := by omega
  go_wp2_with fail
  refine (rof_c _ _).mono ?_; rintro e w4 ⟨rfl, hb4⟩
  have hz4 := hb4.size; (try simp at hz4); obtain ⟨hc4, hf4⟩ := bcell hb4; have hB4 := below_step (w := w) hb4 (by repeat (first | assumption | exact Below.refl _ _ | (with_reducible refine Below.drew ?_) | (with_reducible refine below_drewN' ?_ _) | (with_reducible refine below_al ?_) | ((with_reducible refine below_set ?_ ?_); rotate_left; focus (first | (simp; done) | (simp; omega)))))
  have le_w_w4 : w.heap.size ≤ w4.heap.size := by omega
  try have lt_w_w4 : w.heap.size < w4.heap.size := by omega
  have le_w1_w4 : w1.heap.size ≤ w4.heap.size := by omega
  try have lt_w1_w4 : w1.heap.size < w4.heap.size := by omega
  have le_w2_w4 : w2.heap.size ≤ w4.heap.size := by omega
  try have lt_w2_w4 : w2.heap.size < w4.heap.size := by omega
  have le_w3_w4 : w3.heap.size ≤ w4.heap.size := by omega
  try have lt_w3_w4 : w3.heap.size < w4.heap.size := by omega
  go_wp2_with fail
  refine (rend_c _ _).mono ?_; rintro e w5 ⟨rfl, hb5⟩
  have hz5 := hb5.size; (try simp at hz5); obtain ⟨hc5, hf5⟩ := bcell hb5; have hB5 := below_step (w := w) hb5 (by repeat (first | assumption | exact Below.refl _ _ | (with_reducible refine Below.drew ?_) | (with_reducible refine below_drewN' ?_ _) | (with_reducible refine below_al ?_) | ((with_reducible refine below_set ?_ ?_); rotate_left; focus (first | (simp; done) | (simp; omega)))))
  have le_w_w5 : w.heap.size ≤ w5.heap.size := by omega
  try have lt_w_w5 : w.heap.size < w5.heap.size := by omega
  have le_w1_w5 : w1.heap.size ≤ w5.heap.size := by omega
  try have lt_w1_w5 : w1.heap.size < w5.heap.size := by omega
  have le_w2_w5 : w2.heap.size ≤ w5.heap.size := by omega
  try have lt_w2_w5 : w2.heap.size < w5.heap.size := by omega
  have le_w3_w5 : w3.heap.size ≤ w5.heap.size := by omega
  try have lt_w3_w5 : w3.heap.size < w5.heap.size := by omega
  have le_w4_w5 : w4.heap.size ≤ w5.heap.size := by omega
  try have lt_w4_w5 : w4.heap.size < w5.heap.size := by omega
  go_wp2_with fail
  refine (move_c _ _ _ _ (hL.below (by repeat (first | assumption | exact Below.refl _ _ | (with_reducible refine Below.drew ?_) | (with_reducible refine below_drewN' ?_ _) | (with_reducible refine below_al ?_) | ((with_reducible refine below_set ?_ ?_); rotate_left; focus (first | (simp; done) | (simp; omega))))))).mono ?_; rintro e w6 ⟨rfl, hb6⟩
  have hz6 := hb6.size; (try simp at hz6); obtain ⟨hc6, hf6⟩ := bcell hb6; have hB6 := below_step (w := w) hb6 (by repeat (first | assumption | exact Below.refl _ _ | (with_reducible refine Below.drew ?_) | (with_reducible refine below_drewN' ?_ _) | (with_reducible refine below_al ?_) | ((with_reducible refine below_set ?_ ?_); rotate_left; focus (first | (simp; done) | (simp; omega)))))
  have le_w_w6 : w.heap.size ≤ w6.heap.size := by omega
  try have lt_w_w6 : w.heap.size < w6.heap.size := by omega
  have le_w1_w6 : w1.heap.size ≤ w6.heap.size := by omega
  try have lt_w1_w6 : w1.heap.size < w6.heap.size := by omega
  have le_w2_w6 : w2.heap.size ≤ w6.heap.size := by omega
  try have lt_w2_w6 : w2.heap.size < w6.heap.size := by omega
  have le_w3_w6 : w3.heap.size ≤ w6.heap.size := by omega
  try have lt_w3_w6 : w3.heap.size < w6.heap.size := by omega
  have le_w4_w6 : w4.heap.size ≤ w6.heap.size := by omega
  try have lt_w4_w6 : w4.heap.size < w6.heap.size := by omega
  have le_w5_w6 : w5.heap.size ≤ w6.heap.size := by omega
  try have lt_w5_w6 : w5.heap.size < w6.heap.size := by omega
  go_wp2_with fail
  refine (last_c _ _ (hL.below (by repeat (first | assumption | exact Below.refl _ _ | (with_reducible refine Below.drew ?_) | (with_reducible refine below_drewN' ?_ _) | (with_reducible refine below_al ?_) | ((with_reducible refine below_set ?_ ?_); rotate_left; focus (first | (simp; done) | (simp; omega))))))).mono ?_; rintro e w7 ⟨rfl, hb7⟩
  have hz7 := hb7.size; (try simp at hz7); obtain ⟨hc7, hf7⟩ := bcell hb7; have hB7 := below_step (w := w) hb7 (by repeat (first | assumption | exact Below.refl _ _ | (with_reducible refine Below.drew ?_) | (with_reducible refine below_drewN' ?_ _) | (with_reducible refine below_al ?_) | ((with_reducible refine below_set ?_ ?_); rotate_left; focus (first | (simp; done) | (simp; omega)))))
  have le_w_w7 : w.heap.size ≤ w7.heap.size := by omega
  try have lt_w_w7 : w.heap.size < w7.heap.size := by omega
  have le_w1_w7 : w1.heap.size ≤ w7.heap.size := by omega
  try have lt_w1_w7 : w1.heap.size < w7.heap.size := by omega
  have le_w2_w7 : w2.heap.size ≤ w7.heap.size := by omega
  try have lt_w2_w7 : w2.heap.size < w7.heap.size := by omega
  have le_w3_w7 : w3.heap.size ≤ w7.heap.size := by omega
  try have lt_w3_w7 : w3.heap.size < w7.heap.size := by omega
  have le_w4_w7 : w4.heap.size ≤ w7.heap.size := by omega
  try have lt_w4_w7 : w4.heap.size < w7.heap.size := by omega
  have le_w5_w7 : w5.heap.size ≤ w7.heap.size := by omega
  try have lt_w5_w7 : w5.heap.size < w7.heap.size := by omega
  have le_w6_w7 : w6.heap.size ≤ w7.heap.size := by omega
  try have lt_w6_w7 : w6.heap.size < w7.heap.size := by omega
  go_wp2_with fail
  go_ret
  exact ⟨rfl, by repeat (first | assumption | exact Below.refl _ _ | (with_reducible refine Below.drew ?_) | (with_reducible refine below_drewN' ?_ _) | (with_reducible refine below_al ?_) | ((with_reducible refine below_set ?_ ?_); rotate_left; focus (first | (simp; done) | (simp; omega))))⟩
set_option maxHeartbeats 1000000 in
theorem monthsEras_f_no_f (n k : Int) (k1 : -32768 ≤ k) (k2 : k ≤ 32767) (h1 : 1 ≤ n) (h2 : n ≤ 3652059) (he : Mon.okB n 4800 = false) (hy : Mon.okB n 12 = false) (hz : Mon.okB (Mon.endV n) k = false) (w : World) (hL : Laid w) : Calls Tryd.prog 8 #[.int .i64 n, .int .i16 k] w fun e w' => e = .returned (.bool true) ∧ Below w.heap.size w w' := by
  obtain ⟨o1, o2, o3, o4⟩ := of_in h1 h2
  have od := dayB_in h1 h2
  have A := Cal.day_of n h1 h2
  have y1 := A.y1; have y2 := A.y2
  clear A
  have e0 := ok_no he
  have el : ¬ n + 146097 ≤ 3652059 := by
    have q := Mon.era_ok n h1 h2; rw [he] at q; exact of_decide_eq_false q.symm
  have e1 := ok_no hy
  have e2 := ok_no hz
  have hB : Below w.heap.size w w := Below.refl _ _
  go_enter Tryd.func8, Tryd.ntmps8
  go_wp2_with fail
  refine (shown05_c _ (hL.below (by repeat (first | assumption | exact Below.refl _ _ | (with_reducible refine Below.drew ?_) | (with_reducible refine below_drewN' ?_ _) | (with_reducible refine below_al ?_) | ((with_reducible refine below_set ?_ ?_); rotate_left; focus (first | (simp; done) | (simp; omega))))))).mono ?_; rintro e w1 ⟨rfl, hb1⟩
  have hz1 := hb1.size; (try simp at hz1); obtain ⟨hc1, hf1⟩ := bcell hb1; have hB1 := below_step (w := w) hb1 (by repeat (first | assumption | exact Below.refl _ _ | (with_reducible refine Below.drew ?_) | (with_reducible refine below_drewN' ?_ _) | (with_reducible refine below_al ?_) | ((with_reducible refine below_set ?_ ?_); rotate_left; focus (first | (simp; done) | (simp; omega)))))
  have le_w_w1 : w.heap.size ≤ w1.heap.size := by omega
  try have lt_w_w1 : w.heap.size < w1.heap.size := by omega
  go_wp2_with fail
  refine (rday_c _ _).mono ?_; rintro e w' ⟨rfl, rfl⟩
  go_wp2_with fail
  refine (shift_c _ _ _ (hL.below (by repeat (first | assumption | exact Below.refl _ _ | (with_reducible refine Below.drew ?_) | (with_reducible refine below_drewN' ?_ _) | (with_reducible refine below_al ?_) | ((with_reducible refine below_set ?_ ?_); rotate_left; focus (first | (simp; done) | (simp; omega))))))).mono ?_; rintro e w2 ⟨rfl, hb2⟩
  have hz2 := hb2.size; (try simp at hz2); obtain ⟨hc2, hf2⟩ := bcell hb2; have hB2 := below_step (w := w) hb2 (by repeat (first | assumption | exact Below.refl _ _ | (with_reducible refine Below.drew ?_) | (with_reducible refine below_drewN' ?_ _) | (with_reducible refine below_al ?_) | ((with_reducible refine below_set ?_ ?_); rotate_left; focus (first | (simp; done) | (simp; omega)))))
  have le_w_w2 : w.heap.size ≤ w2.heap.size := by omega
  try have lt_w_w2 : w.heap.size < w2.heap.size := by omega
  have le_w1_w2 : w1.heap.size ≤ w2.heap.size := by omega
  try have lt_w1_w2 : w1.heap.size < w2.heap.size := by omega
  go_wp2_with fail
  refine (shift_c _ _ _ (hL.below (by repeat (first | assumption | exact Below.refl _ _ | (with_reducible refine Below.drew ?_) | (with_reducible refine below_drewN' ?_ _) | (with_reducible refine below_al ?_) | ((with_reducible refine below_set ?_ ?_); rotate_left; focus (first | (simp; done) | (simp; omega))))))).mono ?_; rintro e w3 ⟨rfl, hb3⟩
  have hz3 := hb3.size; (try simp at hz3); obtain ⟨hc3, hf3⟩ := bcell hb3; have hB3 := below_step (w := w) hb3 (by repeat (first | assumption | exact Below.refl _ _ | (with_reducible refine Below.drew ?_) | (with_reducible refine below_drewN' ?_ _) | (with_reducible refine below_al ?_) | ((with_reducible refine below_set ?_ ?_); rotate_left; focus (first | (simp; done) | (simp; omega)))))
  have le_w_w3 : w.heap.size ≤ w3.heap.size := by omega
  try have lt_w_w3 : w.heap.size < w3.heap.size := by omega
  have le_w1_w3 : w1.heap.size ≤ w3.heap.size := by omega
  try have lt_w1_w3 : w1.heap.size < w3.heap.size := by omega
  have le_w2_w3 : w2.heap.size ≤ w3.heap.size := by omega
  try have lt_w2_w3 : w2.heap.size < w3.heap.size := by omega
  go_wp2_with fail
  refine (rof_c _ _).mono ?_; rintro e w4 ⟨rfl, hb4⟩
  have hz4 := hb4.size; (try simp at hz4); obtain ⟨hc4, hf4⟩ := bcell hb4; have hB4 := below_step (w := w) hb4 (by repeat (first | assumption | exact Below.refl _ _ | (with_reducible refine Below.drew ?_) | (with_reducible refine below_drewN' ?_ _) | (with_reducible refine below_al ?_) | ((with_reducible refine below_set ?_ ?_); rotate_left; focus (first | (simp; done) | (simp; omega)))))
  have le_w_w4 : w.heap.size ≤ w4.heap.size := by omega
  try have lt_w_w4 : w.heap.size < w4.heap.size := by omega
  have le_w1_w4 : w1.heap.size ≤ w4.heap.size := by omega
  try have lt_w1_w4 : w1.heap.size < w4.heap.size := by omega
  have le_w2_w4 : w2.heap.size ≤ w4.heap.size := by omega
  try have lt_w2_w4 : w2.heap.size < w4.heap.size := by omega
  have le_w3_w4 : w3.heap.size ≤ w4.heap.size := by omega
  try have lt_w3_w4 : w3.heap.size < w4.heap.size := by omega
  go_wp2_with fail
  refine (rend_c _ _).mono ?_; rintro e w5 ⟨rfl, hb5⟩
  have hz5 := hb5.size; (try simp at hz5); obtain ⟨hc5, hf5⟩ := bcell hb5; have hB5 := below_step (w := w) hb5 (by repeat (first | assumption | exact Below.refl _ _ | (with_reducible refine Below.drew ?_) | (with_reducible refine below_drewN' ?_ _) | (with_reducible refine below_al ?_) | ((with_reducible refine below_set ?_ ?_); rotate_left; focus (first | (simp; done) | (simp; omega)))))
  have le_w_w5 : w.heap.size ≤ w5.heap.size := by omega
  try have lt_w_w5 : w.heap.size < w5.heap.size := by omega
  have le_w1_w5 : w1.heap.size ≤ w5.heap.size := by omega
  try have lt_w1_w5 : w1.heap.size < w5.heap.size := by omega
  have le_w2_w5 : w2.heap.size ≤ w5.heap.size := by omega
  try have lt_w2_w5 : w2.heap.size < w5.heap.size := by omega
  have le_w3_w5 : w3.heap.size ≤ w5.heap.size := by omega
  try have lt_w3_w5 : w3.heap.size < w5.heap.size := by omega
  have le_w4_w5 : w4.heap.size ≤ w5.heap.size := by omega
  try have lt_w4_w5 : w4.heap.size < w5.heap.size := by omega
  go_wp2_with fail
  refine (move_c _ _ _ _ (hL.below (by repeat (first | assumption | exact Below.refl _ _ | (with_reducible refine Below.drew ?_) | (with_reducible refine below_drewN' ?_ _) | (with_reducible refine below_al ?_) | ((with_reducible refine below_set ?_ ?_); rotate_left; focus (first | (simp; done) | (simp; omega))))))).mono ?_; rintro e w6 ⟨rfl, hb6⟩
  have hz6 := hb6.size; (try simp at hz6); obtain ⟨hc6, hf6⟩ := bcell hb6; have hB6 := below_step (w := w) hb6 (by repeat (first | assumption | exact Below.refl _ _ | (with_reducible refine Below.drew ?_) | (with_reducible refine below_drewN' ?_ _) | (with_reducible refine below_al ?_) | ((with_reducible refine below_set ?_ ?_); rotate_left; focus (first | (simp; done) | (simp; omega)))))
  have le_w_w6 : w.heap.size ≤ w6.heap.size := by omega
  try have lt_w_w6 : w.heap.size < w6.heap.size := by omega
  have le_w1_w6 : w1.heap.size ≤ w6.heap.size := by omega
  try have lt_w1_w6 : w1.heap.size < w6.heap.size := by omega
  have le_w2_w6 : w2.heap.size ≤ w6.heap.size := by omega
  try have lt_w2_w6 : w2.heap.size < w6.heap.size := by omega
  have le_w3_w6 : w3.heap.size ≤ w6.heap.size := by omega
  try have lt_w3_w6 : w3.heap.size < w6.heap.size := by omega
  have le_w4_w6 : w4.heap.size ≤ w6.heap.size := by omega
  try have lt_w4_w6 : w4.heap.size < w6.heap.size := by omega
  have le_w5_w6 : w5.heap.size ≤ w6.heap.size := by omega
  try have lt_w5_w6 : w5.heap.size < w6.heap.size := by omega
  go_wp2_with fail
  go_ret
  exact ⟨rfl, by repeat (first | assumption | exact Below.refl _ _ | (with_reducible refine Below.drew ?_) | (with_reducible refine below_drewN' ?_ _) | (with_reducible refine below_al ?_) | ((with_reducible refine below_set ?_ ?_); rotate_left; focus (first | (simp; done) | (simp; omega))))⟩
set_option maxHeartbeats 1000000 in
theorem monthsEras_f_feb_t (n k : Int) (k1 : -32768 ≤ k) (k2 : k ≤ 32767) (h1 : 1 ≤ n) (h2 : n ≤ 3652059) (he : Mon.okB n 4800 = false) (hy : Mon.okB n 12 = true) (hz : Mon.okB (Mon.endV n) k = true) (m2 : (Cal.mOf n == 2) = true) (d29 : (Cal.dOf n == 29) = true) (w : World) (hL : Laid w) : Calls Tryd.prog 8 #[.int .i64 n, .int .i16 k] w fun e w' => e = .returned (.bool true) ∧ Below w.heap.size w w' := by
  obtain ⟨o1, o2, o3, o4⟩ := of_in h1 h2
  have od := dayB_in h1 h2
  have A := Cal.day_of n h1 h2
  have y1 := A.y1; have y2 := A.y2
  clear A
  have e0 := ok_no he
  have el : ¬ n + 146097 ≤ 3652059 := by
    have q := Mon.era_ok n h1 h2; rw [he] at q; exact of_decide_eq_false q.symm
  have e1 := ok_yes hy
  obtain ⟨x1, x2⟩ := Mon.V_bd (eom := false) hy
  obtain ⟨a1, a2, a3⟩ := Mon.of_V (eom := false) hy
  rw [(Mon.year_YN n h1 h2).1] at a1; rw [(Mon.year_YN n h1 h2).2] at a2
  rw [Mon.year_short h1 h2 ⟨by simpa using m2, by simpa using d29⟩] at a3
  obtain ⟨r1, r2, r3, r4⟩ := of_in x1 x2
  rw [a1] at r1; rw [a2] at r2; rw [a3] at r3
  clear a1 a2 a3
  have e2 := ok_yes hz
  have ez := Mon.end_move h1 h2 hz
  have hB : Below w.heap.size w w := Below.refl _ _
  go_enter Tryd.func8, Tryd.ntmps8
  go_wp2_with fail
  refine (shown05_c _ (hL.below (by repeat (first | assumption | exact Below.refl _ _ | (with_reducible refine Below.drew ?_) | (with_reducible refine below_drewN' ?_ _) | (with_reducible refine below_al ?_) | ((with_reducible refine below_set ?_ ?_); rotate_left; focus (first | (simp; done) | (simp; omega))))))).mono ?_; rintro e w1 ⟨rfl, hb1⟩
  have hz1 := hb1.size; (try simp at hz1); obtain ⟨hc1, hf1⟩ := bcell hb1; have hB1 := below_step (w := w) hb1 (by repeat (first | assumption | exact Below.refl _ _ | (with_reducible refine Below.drew ?_) | (with_reducible refine below_drewN' ?_ _) | (with_reducible refine below_al ?_) | ((with_reducible refine below_set ?_ ?_); rotate_left; focus (first | (simp; done) | (simp; omega)))))
  have le_w_w1 : w.heap.size ≤ w1.heap.size := by omega
  try have lt_w_w1 : w.heap.size < w1.heap.size := by omega
  go_wp2_with fail
  refine (rday_c _ _).mono ?_; rintro e w' ⟨rfl, rfl⟩
  go_wp2_with fail
  refine (shift_c _ _ _ (hL.below (by repeat (first | assumption | exact Below.refl _ _ | (with_reducible refine Below.drew ?_) | (with_reducible refine below_drewN' ?_ _) | (with_reducible refine below_al ?_) | ((with_reducible refine below_set ?_ ?_); rotate_left; focus (first | (simp; done) | (simp; omega))))))).mono ?_; rintro e w2 ⟨rfl, hb2⟩
  have hz2 := hb2.size; (try simp at hz2); obtain ⟨hc2, hf2⟩ := bcell hb2; have hB2 := below_step (w := w) hb2 (by repeat (first | assumption | exact Below.refl _ _ | (with_reducible refine Below.drew ?_) | (with_reducible refine below_drewN' ?_ _) | (with_reducible refine below_al ?_) | ((with_reducible refine below_set ?_ ?_); rotate_left; focus (first | (simp; done) | (simp; omega)))))
  have le_w_w2 : w.heap.size ≤ w2.heap.size := by omega
  try have lt_w_w2 : w.heap.size < w2.heap.size := by omega
  have le_w1_w2 : w1.heap.size ≤ w2.heap.size := by omega
  try have lt_w1_w2 : w1.heap.size < w2.heap.size := by omega
  go_wp2_with fail
  refine (shift_c _ _ _ (hL.below (by repeat (first | assumption | exact Below.refl _ _ | (with_reducible refine Below.drew ?_) | (with_reducible refine below_drewN' ?_ _) | (with_reducible refine below_al ?_) | ((with_reducible refine below_set ?_ ?_); rotate_left; focus (first | (simp; done) | (simp; omega))))))).mono ?_; rintro e w3 ⟨rfl, hb3⟩
  have hz3 := hb3.size; (try simp at hz3); obtain ⟨hc3, hf3⟩ := bcell hb3; have hB3 := below_step (w := w) hb3 (by repeat (first | assumption | exact Below.refl _ _ | (with_reducible refine Below.drew ?_) | (with_reducible refine below_drewN' ?_ _) | (with_reducible refine below_al ?_) | ((with_reducible refine below_set ?_ ?_); rotate_left; focus (first | (simp; done) | (simp; omega)))))
  have le_w_w3 : w.heap.size ≤ w3.heap.size := by omega
  try have lt_w_w3 : w.heap.size < w3.heap.size := by omega
  have le_w1_w3 : w1.heap.size ≤ w3.heap.size := by omega
  try have lt_w1_w3 : w1.heap.size < w3.heap.size := by omega
  have le_w2_w3 : w2.heap.size ≤ w3.heap.size := by omega
  try have lt_w2_w3 : w2.heap.size < w3.heap.size := by omega
  go_wp2_with fail
  refine (rof_c _ _).mono ?_; rintro e w4 ⟨rfl, hb4⟩
  have hz4 := hb4.size; (try simp at hz4); obtain ⟨hc4, hf4⟩ := bcell hb4; have hB4 := below_step (w := w) hb4 (by repeat (first | assumption | exact Below.refl _ _ | (with_reducible refine Below.drew ?_) | (with_reducible refine below_drewN' ?_ _) | (with_reducible refine below_al ?_) | ((with_reducible refine below_set ?_ ?_); rotate_left; focus (first | (simp; done) | (simp; omega)))))
  have le_w_w4 : w.heap.size ≤ w4.heap.size := by omega
  try have lt_w_w4 : w.heap.size < w4.heap.size := by omega
  have le_w1_w4 : w1.heap.size ≤ w4.heap.size := by omega
  try have lt_w1_w4 : w1.heap.size < w4.heap.size := by omega
  have le_w2_w4 : w2.heap.size ≤ w4.heap.size := by omega
  try have lt_w2_w4 : w2.heap.size < w4.heap.size := by omega
  have le_w3_w4 : w3.heap.size ≤ w4.heap.size := by omega
  try have lt_w3_w4 : w3.heap.size < w4.heap.size := by omega
  go_wp2_with fail
  refine (rof_c _ _).mono ?_; rintro e w5 ⟨rfl, hb5⟩
  have hz5 := hb5.size; (try simp at hz5); obtain ⟨hc5, hf5⟩ := bcell hb5; have hB5 := below_step (w := w) hb5 (by repeat (first | assumption | exact Below.refl _ _ | (with_reducible refine Below.drew ?_) | (with_reducible refine below_drewN' ?_ _) | (with_reducible refine below_al ?_) | ((with_reducible refine below_set ?_ ?_); rotate_left; focus (first | (simp; done) | (simp; omega)))))
  have le_w_w5 : w.heap.size ≤ w5.heap.size := by omega
  try have lt_w_w5 : w.heap.size < w5.heap.size := by omega
  have le_w1_w5 : w1.heap.size ≤ w5.heap.size := by omega
  try have lt_w1_w5 : w1.heap.size < w5.heap.size := by omega
  have le_w2_w5 : w2.heap.size ≤ w5.heap.size := by omega
  try have lt_w2_w5 : w2.heap.size < w5.heap.size := by omega
  have le_w3_w5 : w3.heap.size ≤ w5.heap.size := by omega
  try have lt_w3_w5 : w3.heap.size < w5.heap.size := by omega
  have le_w4_w5 : w4.heap.size ≤ w5.heap.size := by omega
  try have lt_w4_w5 : w4.heap.size < w5.heap.size := by omega
  go_wp2_with fail
  refine (rend_c _ _).mono ?_; rintro e w6 ⟨rfl, hb6⟩
  have hz6 := hb6.size; (try simp at hz6); obtain ⟨hc6, hf6⟩ := bcell hb6; have hB6 := below_step (w := w) hb6 (by repeat (first | assumption | exact Below.refl _ _ | (with_reducible refine Below.drew ?_) | (with_reducible refine below_drewN' ?_ _) | (with_reducible refine below_al ?_) | ((with_reducible refine below_set ?_ ?_); rotate_left; focus (first | (simp; done) | (simp; omega)))))
  have le_w_w6 : w.heap.size ≤ w6.heap.size := by omega
  try have lt_w_w6 : w.heap.size < w6.heap.size := by omega
  have le_w1_w6 : w1.heap.size ≤ w6.heap.size := by omega
  try have lt_w1_w6 : w1.heap.size < w6.heap.size := by omega
  have le_w2_w6 : w2.heap.size ≤ w6.heap.size := by omega
  try have lt_w2_w6 : w2.heap.size < w6.heap.size := by omega
  have le_w3_w6 : w3.heap.size ≤ w6.heap.size := by omega
  try have lt_w3_w6 : w3.heap.size < w6.heap.size := by omega
  have le_w4_w6 : w4.heap.size ≤ w6.heap.size := by omega
  try have lt_w4_w6 : w4.heap.size < w6.heap.size := by omega
  have le_w5_w6 : w5.heap.size ≤ w6.heap.size := by omega
  try have lt_w5_w6 : w5.heap.size < w6.heap.size := by omega
  go_wp2_with fail
  refine (move_c _ _ _ _ (hL.below (by repeat (first | assumption | exact Below.refl _ _ | (with_reducible refine Below.drew ?_) | (with_reducible refine below_drewN' ?_ _) | (with_reducible refine below_al ?_) | ((with_reducible refine below_set ?_ ?_); rotate_left; focus (first | (simp; done) | (simp; omega))))))).mono ?_; rintro e w7 ⟨rfl, hb7⟩
  have hz7 := hb7.size; (try simp at hz7); obtain ⟨hc7, hf7⟩ := bcell hb7; have hB7 := below_step (w := w) hb7 (by repeat (first | assumption | exact Below.refl _ _ | (with_reducible refine Below.drew ?_) | (with_reducible refine below_drewN' ?_ _) | (with_reducible refine below_al ?_) | ((with_reducible refine below_set ?_ ?_); rotate_left; focus (first | (simp; done) | (simp; omega)))))
  have le_w_w7 : w.heap.size ≤ w7.heap.size := by omega
  try have lt_w_w7 : w.heap.size < w7.heap.size := by omega
  have le_w1_w7 : w1.heap.size ≤ w7.heap.size := by omega
  try have lt_w1_w7 : w1.heap.size < w7.heap.size := by omega
  have le_w2_w7 : w2.heap.size ≤ w7.heap.size := by omega
  try have lt_w2_w7 : w2.heap.size < w7.heap.size := by omega
  have le_w3_w7 : w3.heap.size ≤ w7.heap.size := by omega
  try have lt_w3_w7 : w3.heap.size < w7.heap.size := by omega
  have le_w4_w7 : w4.heap.size ≤ w7.heap.size := by omega
  try have lt_w4_w7 : w4.heap.size < w7.heap.size := by omega
  have le_w5_w7 : w5.heap.size ≤ w7.heap.size := by omega
  try have lt_w5_w7 : w5.heap.size < w7.heap.size := by omega
  have le_w6_w7 : w6.heap.size ≤ w7.heap.size := by omega
  try have lt_w6_w7 : w6.heap.size < w7.heap.size := by omega
  go_wp2_with fail
  refine (last_c _ _ (hL.below (by repeat (first | assumption | exact Below.refl _ _ | (with_reducible refine Below.drew ?_) | (with_reducible refine below_drewN' ?_ _) | (with_reducible refine below_al ?_) | ((with_reducible refine below_set ?_ ?_); rotate_left; focus (first | (simp; done) | (simp; omega))))))).mono ?_; rintro e w8 ⟨rfl, hb8⟩
  have hz8 := hb8.size; (try simp at hz8); obtain ⟨hc8, hf8⟩ := bcell hb8; have hB8 := below_step (w := w) hb8 (by repeat (first | assumption | exact Below.refl _ _ | (with_reducible refine Below.drew ?_) | (with_reducible refine below_drewN' ?_ _) | (with_reducible refine below_al ?_) | ((with_reducible refine below_set ?_ ?_); rotate_left; focus (first | (simp; done) | (simp; omega)))))
  have le_w_w8 : w.heap.size ≤ w8.heap.size := by omega
  try have lt_w_w8 : w.heap.size < w8.heap.size := by omega
  have le_w1_w8 : w1.heap.size ≤ w8.heap.size := by omega
  try have lt_w1_w8 : w1.heap.size < w8.heap.size := by omega
  have le_w2_w8 : w2.heap.size ≤ w8.heap.size := by omega
  try have lt_w2_w8 : w2.heap.size < w8.heap.size := by omega
  have le_w3_w8 : w3.heap.size ≤ w8.heap.size := by omega
  try have lt_w3_w8 : w3.heap.size < w8.heap.size := by omega
  have le_w4_w8 : w4.heap.size ≤ w8.heap.size := by omega
  try have lt_w4_w8 : w4.heap.size < w8.heap.size := by omega
  have le_w5_w8 : w5.heap.size ≤ w8.heap.size := by omega
  try have lt_w5_w8 : w5.heap.size < w8.heap.size := by omega
  have le_w6_w8 : w6.heap.size ≤ w8.heap.size := by omega
  try have lt_w6_w8 : w6.heap.size < w8.heap.size := by omega
  have le_w7_w8 : w7.heap.size ≤ w8.heap.size := by omega
  try have lt_w7_w8 : w7.heap.size < w8.heap.size := by omega
  go_wp2_with fail
  go_ret
  exact ⟨rfl, by repeat (first | assumption | exact Below.refl _ _ | (with_reducible refine Below.drew ?_) | (with_reducible refine below_drewN' ?_ _) | (with_reducible refine below_al ?_) | ((with_reducible refine below_set ?_ ?_); rotate_left; focus (first | (simp; done) | (simp; omega))))⟩
set_option maxHeartbeats 1000000 in
theorem monthsEras_f_feb_f (n k : Int) (k1 : -32768 ≤ k) (k2 : k ≤ 32767) (h1 : 1 ≤ n) (h2 : n ≤ 3652059) (he : Mon.okB n 4800 = false) (hy : Mon.okB n 12 = true) (hz : Mon.okB (Mon.endV n) k = false) (m2 : (Cal.mOf n == 2) = true) (d29 : (Cal.dOf n == 29) = true) (w : World) (hL : Laid w) : Calls Tryd.prog 8 #[.int .i64 n, .int .i16 k] w fun e w' => e = .returned (.bool true) ∧ Below w.heap.size w w' := by
  obtain ⟨o1, o2, o3, o4⟩ := of_in h1 h2
  have od := dayB_in h1 h2
  have A := Cal.day_of n h1 h2
  have y1 := A.y1; have y2 := A.y2
  clear A
  have e0 := ok_no he
  have el : ¬ n + 146097 ≤ 3652059 := by
    have q := Mon.era_ok n h1 h2; rw [he] at q; exact of_decide_eq_false q.symm
  have e1 := ok_yes hy
  obtain ⟨x1, x2⟩ := Mon.V_bd (eom := false) hy
  obtain ⟨a1, a2, a3⟩ := Mon.of_V (eom := false) hy
  rw [(Mon.year_YN n h1 h2).1] at a1; rw [(Mon.year_YN n h1 h2).2] at a2
  rw [Mon.year_short h1 h2 ⟨by simpa using m2, by simpa using d29⟩] at a3
  obtain ⟨r1, r2, r3, r4⟩ := of_in x1 x2
  rw [a1] at r1; rw [a2] at r2; rw [a3] at r3
  clear a1 a2 a3
  have e2 := ok_no hz
  have hB : Below w.heap.size w w := Below.refl _ _
  go_enter Tryd.func8, Tryd.ntmps8
  go_wp2_with fail
  refine (shown05_c _ (hL.below (by repeat (first | assumption | exact Below.refl _ _ | (with_reducible refine Below.drew ?_) | (with_reducible refine below_drewN' ?_ _) | (with_reducible refine below_al ?_) | ((with_reducible refine below_set ?_ ?_); rotate_left; focus (first | (simp; done) | (simp; omega))))))).mono ?_; rintro e w1 ⟨rfl, hb1⟩
  have hz1 := hb1.size; (try simp at hz1); obtain ⟨hc1, hf1⟩ := bcell hb1; have hB1 := below_step (w := w) hb1 (by repeat (first | assumption | exact Below.refl _ _ | (with_reducible refine Below.drew ?_) | (with_reducible refine below_drewN' ?_ _) | (with_reducible refine below_al ?_) | ((with_reducible refine below_set ?_ ?_); rotate_left; focus (first | (simp; done) | (simp; omega)))))
  have le_w_w1 : w.heap.size ≤ w1.heap.size := by omega
  try have lt_w_w1 : w.heap.size < w1.heap.size := by omega
  go_wp2_with fail
  refine (rday_c _ _).mono ?_; rintro e w' ⟨rfl, rfl⟩
  go_wp2_with fail
  refine (shift_c _ _ _ (hL.below (by repeat (first | assumption | exact Below.refl _ _ | (with_reducible refine Below.drew ?_) | (with_reducible refine below_drewN' ?_ _) | (with_reducible refine below_al ?_) | ((with_reducible refine below_set ?_ ?_); rotate_left; focus (first | (simp; done) | (simp; omega))))))).mono ?_; rintro e w2 ⟨rfl, hb2⟩
  have hz2 := hb2.size; (try simp at hz2); obtain ⟨hc2, hf2⟩ := bcell hb2; have hB2 := below_step (w := w) hb2 (by repeat (first | assumption | exact Below.refl _ _ | (with_reducible refine Below.drew ?_) | (with_reducible refine below_drewN' ?_ _) | (with_reducible refine below_al ?_) | ((with_reducible refine below_set ?_ ?_); rotate_left; focus (first | (simp; done) | (simp; omega)))))
  have le_w_w2 : w.heap.size ≤ w2.heap.size := by omega
  try have lt_w_w2 : w.heap.size < w2.heap.size := by omega
  have le_w1_w2 : w1.heap.size ≤ w2.heap.size := by omega
  try have lt_w1_w2 : w1.heap.size < w2.heap.size := by omega
  go_wp2_with fail
  refine (shift_c _ _ _ (hL.below (by repeat (first | assumption | exact Below.refl _ _ | (with_reducible refine Below.drew ?_) | (with_reducible refine below_drewN' ?_ _) | (with_reducible refine below_al ?_) | ((with_reducible refine below_set ?_ ?_); rotate_left; focus (first | (simp; done) | (simp; omega))))))).mono ?_; rintro e w3 ⟨rfl, hb3⟩
  have hz3 := hb3.size; (try simp at hz3); obtain ⟨hc3, hf3⟩ := bcell hb3; have hB3 := below_step (w := w) hb3 (by repeat (first | assumption | exact Below.refl _ _ | (with_reducible refine Below.drew ?_) | (with_reducible refine below_drewN' ?_ _) | (with_reducible refine below_al ?_) | ((with_reducible refine below_set ?_ ?_); rotate_left; focus (first | (simp; done) | (simp; omega)))))
  have le_w_w3 : w.heap.size ≤ w3.heap.size := by omega
  try have lt_w_w3 : w.heap.size < w3.heap.size := by omega
  have le_w1_w3 : w1.heap.size ≤ w3.heap.size := by omega
  try have lt_w1_w3 : w1.heap.size < w3.heap.size := by omega
  have le_w2_w3 : w2.heap.size ≤ w3.heap.size := by omega
  try have lt_w2_w3 : w2.heap.size < w3.heap.size := by omega
  go_wp2_with fail
  refine (rof_c _ _).mono ?_; rintro e w4 ⟨rfl, hb4⟩
  have hz4 := hb4.size; (try simp at hz4); obtain ⟨hc4, hf4⟩ := bcell hb4; have hB4 := below_step (w := w) hb4 (by repeat (first | assumption | exact Below.refl _ _ | (with_reducible refine Below.drew ?_) | (with_reducible refine below_drewN' ?_ _) | (with_reducible refine below_al ?_) | ((with_reducible refine below_set ?_ ?_); rotate_left; focus (first | (simp; done) | (simp; omega)))))
  have le_w_w4 : w.heap.size ≤ w4.heap.size := by omega
  try have lt_w_w4 : w.heap.size < w4.heap.size := by omega
  have le_w1_w4 : w1.heap.size ≤ w4.heap.size := by omega
  try have lt_w1_w4 : w1.heap.size < w4.heap.size := by omega
  have le_w2_w4 : w2.heap.size ≤ w4.heap.size := by omega
  try have lt_w2_w4 : w2.heap.size < w4.heap.size := by omega
  have le_w3_w4 : w3.heap.size ≤ w4.heap.size := by omega
  try have lt_w3_w4 : w3.heap.size < w4.heap.size := by omega
  go_wp2_with fail
  refine (rof_c _ _).mono ?_; rintro e w5 ⟨rfl, hb5⟩
  have hz5 := hb5.size; (try simp at hz5); obtain ⟨hc5, hf5⟩ := bcell hb5; have hB5 := below_step (w := w) hb5 (by repeat (first | assumption | exact Below.refl _ _ | (with_reducible refine Below.drew ?_) | (with_reducible refine below_drewN' ?_ _) | (with_reducible refine below_al ?_) | ((with_reducible refine below_set ?_ ?_); rotate_left; focus (first | (simp; done) | (simp; omega)))))
  have le_w_w5 : w.heap.size ≤ w5.heap.size := by omega
  try have lt_w_w5 : w.heap.size < w5.heap.size := by omega
  have le_w1_w5 : w1.heap.size ≤ w5.heap.size := by omega
  try have lt_w1_w5 : w1.heap.size < w5.heap.size := by omega
  have le_w2_w5 : w2.heap.size ≤ w5.heap.size := by omega
  try have lt_w2_w5 : w2.heap.size < w5.heap.size := by omega
  have le_w3_w5 : w3.heap.size ≤ w5.heap.size := by omega
  try have lt_w3_w5 : w3.heap.size < w5.heap.size := by omega
  have le_w4_w5 : w4.heap.size ≤ w5.heap.size := by omega
  try have lt_w4_w5 : w4.heap.size < w5.heap.size := by omega
  go_wp2_with fail
  refine (rend_c _ _).mono ?_; rintro e w6 ⟨rfl, hb6⟩
  have hz6 := hb6.size; (try simp at hz6); obtain ⟨hc6, hf6⟩ := bcell hb6; have hB6 := below_step (w := w) hb6 (by repeat (first | assumption | exact Below.refl _ _ | (with_reducible refine Below.drew ?_) | (with_reducible refine below_drewN' ?_ _) | (with_reducible refine below_al ?_) | ((with_reducible refine below_set ?_ ?_); rotate_left; focus (first | (simp; done) | (simp; omega)))))
  have le_w_w6 : w.heap.size ≤ w6.heap.size := by omega
  try have lt_w_w6 : w.heap.size < w6.heap.size := by omega
  have le_w1_w6 : w1.heap.size ≤ w6.heap.size := by omega
  try have lt_w1_w6 : w1.heap.size < w6.heap.size := by omega
  have le_w2_w6 : w2.heap.size ≤ w6.heap.size := by omega
  try have lt_w2_w6 : w2.heap.size < w6.heap.size := by omega
  have le_w3_w6 : w3.heap.size ≤ w6.heap.size := by omega
  try have lt_w3_w6 : w3.heap.size < w6.heap.size := by omega
  have le_w4_w6 : w4.heap.size ≤ w6.heap.size := by omega
  try have lt_w4_w6 : w4.heap.size < w6.heap.size := by omega
  have le_w5_w6 : w5.heap.size ≤ w6.heap.size := by omega
  try have lt_w5_w6 : w5.heap.size < w6.heap.size := by omega
  go_wp2_with fail
  refine (move_c _ _ _ _ (hL.below (by repeat (first | assumption | exact Below.refl _ _ | (with_reducible refine Below.drew ?_) | (with_reducible refine below_drewN' ?_ _) | (with_reducible refine below_al ?_) | ((with_reducible refine below_set ?_ ?_); rotate_left; focus (first | (simp; done) | (simp; omega))))))).mono ?_; rintro e w7 ⟨rfl, hb7⟩
  have hz7 := hb7.size; (try simp at hz7); obtain ⟨hc7, hf7⟩ := bcell hb7; have hB7 := below_step (w := w) hb7 (by repeat (first | assumption | exact Below.refl _ _ | (with_reducible refine Below.drew ?_) | (with_reducible refine below_drewN' ?_ _) | (with_reducible refine below_al ?_) | ((with_reducible refine below_set ?_ ?_); rotate_left; focus (first | (simp; done) | (simp; omega)))))
  have le_w_w7 : w.heap.size ≤ w7.heap.size := by omega
  try have lt_w_w7 : w.heap.size < w7.heap.size := by omega
  have le_w1_w7 : w1.heap.size ≤ w7.heap.size := by omega
  try have lt_w1_w7 : w1.heap.size < w7.heap.size := by omega
  have le_w2_w7 : w2.heap.size ≤ w7.heap.size := by omega
  try have lt_w2_w7 : w2.heap.size < w7.heap.size := by omega
  have le_w3_w7 : w3.heap.size ≤ w7.heap.size := by omega
  try have lt_w3_w7 : w3.heap.size < w7.heap.size := by omega
  have le_w4_w7 : w4.heap.size ≤ w7.heap.size := by omega
  try have lt_w4_w7 : w4.heap.size < w7.heap.size := by omega
  have le_w5_w7 : w5.heap.size ≤ w7.heap.size := by omega
  try have lt_w5_w7 : w5.heap.size < w7.heap.size := by omega
  have le_w6_w7 : w6.heap.size ≤ w7.heap.size := by omega
  try have lt_w6_w7 : w6.heap.size < w7.heap.size := by omega
  go_wp2_with fail
  go_ret
  exact ⟨rfl, by repeat (first | assumption | exact Below.refl _ _ | (with_reducible refine Below.drew ?_) | (with_reducible refine below_drewN' ?_ _) | (with_reducible refine below_al ?_) | ((with_reducible refine below_set ?_ ?_); rotate_left; focus (first | (simp; done) | (simp; omega))))⟩
set_option maxHeartbeats 1000000 in
theorem monthsEras_f_feb2_t (n k : Int) (k1 : -32768 ≤ k) (k2 : k ≤ 32767) (h1 : 1 ≤ n) (h2 : n ≤ 3652059) (he : Mon.okB n 4800 = false) (hy : Mon.okB n 12 = true) (hz : Mon.okB (Mon.endV n) k = true) (m2 : (Cal.mOf n == 2) = true) (d29 : (Cal.dOf n == 29) = false) (w : World) (hL : Laid w) : Calls Tryd.prog 8 #[.int .i64 n, .int .i16 k] w fun e w' => e = .returned (.bool true) ∧ Below w.heap.size w w' := by
  obtain ⟨o1, o2, o3, o4⟩ := of_in h1 h2
  have od := dayB_in h1 h2
  have A := Cal.day_of n h1 h2
  have y1 := A.y1; have y2 := A.y2
  clear A
  have e0 := ok_no he
  have el : ¬ n + 146097 ≤ 3652059 := by
    have q := Mon.era_ok n h1 h2; rw [he] at q; exact of_decide_eq_false q.symm
  have e1 := ok_yes hy
  obtain ⟨x1, x2⟩ := Mon.V_bd (eom := false) hy
  obtain ⟨a1, a2, a3⟩ := Mon.of_V (eom := false) hy
  rw [(Mon.year_YN n h1 h2).1] at a1; rw [(Mon.year_YN n h1 h2).2] at a2
  rw [Mon.year_plain h1 h2 (fun c => absurd c.2 (by simpa using d29))] at a3
  obtain ⟨r1, r2, r3, r4⟩ := of_in x1 x2
  rw [a1] at r1; rw [a2] at r2; rw [a3] at r3
  clear a1 a2 a3
  have e2 := ok_yes hz
  have ez := Mon.end_move h1 h2 hz
  have hB : Below w.heap.size w w := Below.refl _ _
  go_enter Tryd.func8, Tryd.ntmps8
  go_wp2_with fail
  refine (shown05_c _ (hL.below (by repeat (first | assumption | exact Below.refl _ _ | (with_reducible refine Below.drew ?_) | (with_reducible refine below_drewN' ?_ _) | (with_reducible refine below_al ?_) | ((with_reducible refine below_set ?_ ?_); rotate_left; focus (first | (simp; done) | (simp; omega))))))).mono ?_; rintro e w1 ⟨rfl, hb1⟩
  have hz1 := hb1.size; (try simp at hz1); obtain ⟨hc1, hf1⟩ := bcell hb1; have hB1 := below_step (w := w) hb1 (by repeat (first | assumption | exact Below.refl _ _ | (with_reducible refine Below.drew ?_) | (with_reducible refine below_drewN' ?_ _) | (with_reducible refine below_al ?_) | ((with_reducible refine below_set ?_ ?_); rotate_left; focus (first | (simp; done) | (simp; omega)))))
  have le_w_w1 : w.heap.size ≤ w1.heap.size := by omega
  try have lt_w_w1 : w.heap.size < w1.heap.size := by omega
  go_wp2_with fail
  refine (rday_c _ _).mono ?_; rintro e w' ⟨rfl, rfl⟩
  go_wp2_with fail
  refine (shift_c _ _ _ (hL.below (by repeat (first | assumption | exact Below.refl _ _ | (with_reducible refine Below.drew ?_) | (with_reducible refine below_drewN' ?_ _) | (with_reducible refine below_al ?_) | ((with_reducible refine below_set ?_ ?_); rotate_left; focus (first | (simp; done) | (simp; omega))))))).mono ?_; rintro e w2 ⟨rfl, hb2⟩
  have hz2 := hb2.size; (try simp at hz2); obtain ⟨hc2, hf2⟩ := bcell hb2; have hB2 := below_step (w := w) hb2 (by repeat (first | assumption | exact Below.refl _ _ | (with_reducible refine Below.drew ?_) | (with_reducible refine below_drewN' ?_ _) | (with_reducible refine below_al ?_) | ((with_reducible refine below_set ?_ ?_); rotate_left; focus (first | (simp; done) | (simp; omega)))))
  have le_w_w2 : w.heap.size ≤ w2.heap.size := by omega
  try have lt_w_w2 : w.heap.size < w2.heap.size := by omega
  have le_w1_w2 : w1.heap.size ≤ w2.heap.size := by omega
  try have lt_w1_w2 : w1.heap.size < w2.heap.size := by omega
  go_wp2_with fail
  refine (shift_c _ _ _ (hL.below (by repeat (first | assumption | exact Below.refl _ _ | (with_reducible refine Below.drew ?_) | (with_reducible refine below_drewN' ?_ _) | (with_reducible refine below_al ?_) | ((with_reducible refine below_set ?_ ?_); rotate_left; focus (first | (simp; done) | (simp; omega))))))).mono ?_; rintro e w3 ⟨rfl, hb3⟩
  have hz3 := hb3.size; (try simp at hz3); obtain ⟨hc3, hf3⟩ := bcell hb3; have hB3 := below_step (w := w) hb3 (by repeat (first | assumption | exact Below.refl _ _ | (with_reducible refine Below.drew ?_) | (with_reducible refine below_drewN' ?_ _) | (with_reducible refine below_al ?_) | ((with_reducible refine below_set ?_ ?_); rotate_left; focus (first | (simp; done) | (simp; omega)))))
  have le_w_w3 : w.heap.size ≤ w3.heap.size := by omega
  try have lt_w_w3 : w.heap.size < w3.heap.size := by omega
  have le_w1_w3 : w1.heap.size ≤ w3.heap.size := by omega
  try have lt_w1_w3 : w1.heap.size < w3.heap.size := by omega
  have le_w2_w3 : w2.heap.size ≤ w3.heap.size := by omega
  try have lt_w2_w3 : w2.heap.size < w3.heap.size := by omega
  go_wp2_with fail
  refine (rof_c _ _).mono ?_; rintro e w4 ⟨rfl, hb4⟩
  have hz4 := hb4.size; (try simp at hz4); obtain ⟨hc4, hf4⟩ := bcell hb4; have hB4 := below_step (w := w) hb4 (by repeat (first | assumption | exact Below.refl _ _ | (with_reducible refine Below.drew ?_) | (with_reducible refine below_drewN' ?_ _) | (with_reducible refine below_al ?_) | ((with_reducible refine below_set ?_ ?_); rotate_left; focus (first | (simp; done) | (simp; omega)))))
  have le_w_w4 : w.heap.size ≤ w4.heap.size := by omega
  try have lt_w_w4 : w.heap.size < w4.heap.size := by omega
  have le_w1_w4 : w1.heap.size ≤ w4.heap.size := by omega
  try have lt_w1_w4 : w1.heap.size < w4.heap.size := by omega
  have le_w2_w4 : w2.heap.size ≤ w4.heap.size := by omega
  try have lt_w2_w4 : w2.heap.size < w4.heap.size := by omega
  have le_w3_w4 : w3.heap.size ≤ w4.heap.size := by omega
  try have lt_w3_w4 : w3.heap.size < w4.heap.size := by omega
  go_wp2_with fail
  refine (rof_c _ _).mono ?_; rintro e w5 ⟨rfl, hb5⟩
  have hz5 := hb5.size; (try simp at hz5); obtain ⟨hc5, hf5⟩ := bcell hb5; have hB5 := below_step (w := w) hb5 (by repeat (first | assumption | exact Below.refl _ _ | (with_reducible refine Below.drew ?_) | (with_reducible refine below_drewN' ?_ _) | (with_reducible refine below_al ?_) | ((with_reducible refine below_set ?_ ?_); rotate_left; focus (first | (simp; done) | (simp; omega)))))
  have le_w_w5 : w.heap.size ≤ w5.heap.size := by omega
  try have lt_w_w5 : w.heap.size < w5.heap.size := by omega
  have le_w1_w5 : w1.heap.size ≤ w5.heap.size := by omega
  try have lt_w1_w5 : w1.heap.size < w5.heap.size := by omega
  have le_w2_w5 : w2.heap.size ≤ w5.heap.size := by omega
  try have lt_w2_w5 : w2.heap.size < w5.heap.size := by omega
  have le_w3_w5 : w3.heap.size ≤ w5.heap.size := by omega
  try have lt_w3_w5 : w3.heap.size < w5.heap.size := by omega
  have le_w4_w5 : w4.heap.size ≤ w5.heap.size := by omega
  try have lt_w4_w5 : w4.heap.size < w5.heap.size := by omega
  go_wp2_with fail
  refine (rend_c _ _).mono ?_; rintro e w6 ⟨rfl, hb6⟩
  have hz6 := hb6.size; (try simp at hz6); obtain ⟨hc6, hf6⟩ := bcell hb6; have hB6 := below_step (w := w) hb6 (by repeat (first | assumption | exact Below.refl _ _ | (with_reducible refine Below.drew ?_) | (with_reducible refine below_drewN' ?_ _) | (with_reducible refine below_al ?_) | ((with_reducible refine below_set ?_ ?_); rotate_left; focus (first | (simp; done) | (simp; omega)))))
  have le_w_w6 : w.heap.size ≤ w6.heap.size := by omega
  try have lt_w_w6 : w.heap.size < w6.heap.size := by omega
  have le_w1_w6 : w1.heap.size ≤ w6.heap.size := by omega
  try have lt_w1_w6 : w1.heap.size < w6.heap.size := by omega
  have le_w2_w6 : w2.heap.size ≤ w6.heap.size := by omega
  try have lt_w2_w6 : w2.heap.size < w6.heap.size := by omega
  have le_w3_w6 : w3.heap.size ≤ w6.heap.size := by omega
  try have lt_w3_w6 : w3.heap.size < w6.heap.size := by omega
  have le_w4_w6 : w4.heap.size ≤ w6.heap.size := by omega
  try have lt_w4_w6 : w4.heap.size < w6.heap.size := by omega
  have le_w5_w6 : w5.heap.size ≤ w6.heap.size := by omega
  try have lt_w5_w6 : w5.heap.size < w6.heap.size := by omega
  go_wp2_with fail
  refine (move_c _ _ _ _ (hL.below (by repeat (first | assumption | exact Below.refl _ _ | (with_reducible refine Below.drew ?_) | (with_reducible refine below_drewN' ?_ _) | (with_reducible refine below_al ?_) | ((with_reducible refine below_set ?_ ?_); rotate_left; focus (first | (simp; done) | (simp; omega))))))).mono ?_; rintro e w7 ⟨rfl, hb7⟩
  have hz7 := hb7.size; (try simp at hz7); obtain ⟨hc7, hf7⟩ := bcell hb7; have hB7 := below_step (w := w) hb7 (by repeat (first | assumption | exact Below.refl _ _ | (with_reducible refine Below.drew ?_) | (with_reducible refine below_drewN' ?_ _) | (with_reducible refine below_al ?_) | ((with_reducible refine below_set ?_ ?_); rotate_left; focus (first | (simp; done) | (simp; omega)))))
  have le_w_w7 : w.heap.size ≤ w7.heap.size := by omega
  try have lt_w_w7 : w.heap.size < w7.heap.size := by omega
  have le_w1_w7 : w1.heap.size ≤ w7.heap.size := by omega
  try have lt_w1_w7 : w1.heap.size < w7.heap.size := by omega
  have le_w2_w7 : w2.heap.size ≤ w7.heap.size := by omega
  try have lt_w2_w7 : w2.heap.size < w7.heap.size := by omega
  have le_w3_w7 : w3.heap.size ≤ w7.heap.size := by omega
  try have lt_w3_w7 : w3.heap.size < w7.heap.size := by omega
  have le_w4_w7 : w4.heap.size ≤ w7.heap.size := by omega
  try have lt_w4_w7 : w4.heap.size < w7.heap.size := by omega
  have le_w5_w7 : w5.heap.size ≤ w7.heap.size := by omega
  try have lt_w5_w7 : w5.heap.size < w7.heap.size := by omega
  have le_w6_w7 : w6.heap.size ≤ w7.heap.size := by omega
  try have lt_w6_w7 : w6.heap.size < w7.heap.size := by omega
  go_wp2_with fail
  refine (last_c _ _ (hL.below (by repeat (first | assumption | exact Below.refl _ _ | (with_reducible refine Below.drew ?_) | (with_reducible refine below_drewN' ?_ _) | (with_reducible refine below_al ?_) | ((with_reducible refine below_set ?_ ?_); rotate_left; focus (first | (simp; done) | (simp; omega))))))).mono ?_; rintro e w8 ⟨rfl, hb8⟩
  have hz8 := hb8.size; (try simp at hz8); obtain ⟨hc8, hf8⟩ := bcell hb8; have hB8 := below_step (w := w) hb8 (by repeat (first | assumption | exact Below.refl _ _ | (with_reducible refine Below.drew ?_) | (with_reducible refine below_drewN' ?_ _) | (with_reducible refine below_al ?_) | ((with_reducible refine below_set ?_ ?_); rotate_left; focus (first | (simp; done) | (simp; omega)))))
  have le_w_w8 : w.heap.size ≤ w8.heap.size := by omega
  try have lt_w_w8 : w.heap.size < w8.heap.size := by omega
  have le_w1_w8 : w1.heap.size ≤ w8.heap.size := by omega
  try have lt_w1_w8 : w1.heap.size < w8.heap.size := by omega
  have le_w2_w8 : w2.heap.size ≤ w8.heap.size := by omega
  try have lt_w2_w8 : w2.heap.size < w8.heap.size := by omega
  have le_w3_w8 : w3.heap.size ≤ w8.heap.size := by omega
  try have lt_w3_w8 : w3.heap.size < w8.heap.size := by omega
  have le_w4_w8 : w4.heap.size ≤ w8.heap.size := by omega
  try have lt_w4_w8 : w4.heap.size < w8.heap.size := by omega
  have le_w5_w8 : w5.heap.size ≤ w8.heap.size := by omega
  try have lt_w5_w8 : w5.heap.size < w8.heap.size := by omega
  have le_w6_w8 : w6.heap.size ≤ w8.heap.size := by omega
  try have lt_w6_w8 : w6.heap.size < w8.heap.size := by omega
  have le_w7_w8 : w7.heap.size ≤ w8.heap.size := by omega
  try have lt_w7_w8 : w7.heap.size < w8.heap.size := by omega
  go_wp2_with fail
  go_ret
  exact ⟨rfl, by repeat (first | assumption | exact Below.refl _ _ | (with_reducible refine Below.drew ?_) | (with_reducible refine below_drewN' ?_ _) | (with_reducible refine below_al ?_) | ((with_reducible refine below_set ?_ ?_); rotate_left; focus (first | (simp; done) | (simp; omega))))⟩
set_option maxHeartbeats 1000000 in
theorem monthsEras_f_feb2_f (n k : Int) (k1 : -32768 ≤ k) (k2 : k ≤ 32767) (h1 : 1 ≤ n) (h2 : n ≤ 3652059) (he : Mon.okB n 4800 = false) (hy : Mon.okB n 12 = true) (hz : Mon.okB (Mon.endV n) k = false) (m2 : (Cal.mOf n == 2) = true) (d29 : (Cal.dOf n == 29) = false) (w : World) (hL : Laid w) : Calls Tryd.prog 8 #[.int .i64 n, .int .i16 k] w fun e w' => e = .returned (.bool true) ∧ Below w.heap.size w w' := by
  obtain ⟨o1, o2, o3, o4⟩ := of_in h1 h2
  have od := dayB_in h1 h2
  have A := Cal.day_of n h1 h2
  have y1 := A.y1; have y2 := A.y2
  clear A
  have e0 := ok_no he
  have el : ¬ n + 146097 ≤ 3652059 := by
    have q := Mon.era_ok n h1 h2; rw [he] at q; exact of_decide_eq_false q.symm
  have e1 := ok_yes hy
  obtain ⟨x1, x2⟩ := Mon.V_bd (eom := false) hy
  obtain ⟨a1, a2, a3⟩ := Mon.of_V (eom := false) hy
  rw [(Mon.year_YN n h1 h2).1] at a1; rw [(Mon.year_YN n h1 h2).2] at a2
  rw [Mon.year_plain h1 h2 (fun c => absurd c.2 (by simpa using d29))] at a3
  obtain ⟨r1, r2, r3, r4⟩ := of_in x1 x2
  rw [a1] at r1; rw [a2] at r2; rw [a3] at r3
  clear a1 a2 a3
  have e2 := ok_no hz
  have hB : Below w.heap.size w w := Below.refl _ _
  go_enter Tryd.func8, Tryd.ntmps8
  go_wp2_with fail
  refine (shown05_c _ (hL.below (by repeat (first | assumption | exact Below.refl _ _ | (with_reducible refine Below.drew ?_) | (with_reducible refine below_drewN' ?_ _) | (with_reducible refine below_al ?_) | ((with_reducible refine below_set ?_ ?_); rotate_left; focus (first | (simp; done) | (simp; omega))))))).mono ?_; rintro e w1 ⟨rfl, hb1⟩
  have hz1 := hb1.size; (try simp at hz1); obtain ⟨hc1, hf1⟩ := bcell hb1; have hB1 := below_step (w := w) hb1 (by repeat (first | assumption | exact Below.refl _ _ | (with_reducible refine Below.drew ?_) | (with_reducible refine below_drewN' ?_ _) | (with_reducible refine below_al ?_) | ((with_reducible refine below_set ?_ ?_); rotate_left; focus (first | (simp; done) | (simp; omega)))))
  have le_w_w1 : w.heap.size ≤ w1.heap.size := by omega
  try have lt_w_w1 : w.heap.size < w1.heap.size := by omega
  go_wp2_with fail
  refine (rday_c _ _).mono ?_; rintro e w' ⟨rfl, rfl⟩
  go_wp2_with fail
  refine (shift_c _ _ _ (hL.below (by repeat (first | assumption | exact Below.refl _ _ | (with_reducible refine Below.drew ?_) | (with_reducible refine below_drewN' ?_ _) | (with_reducible refine below_al ?_) | ((with_reducible refine below_set ?_ ?_); rotate_left; focus (first | (simp; done) | (simp; omega))))))).mono ?_; rintro e w2 ⟨rfl, hb2⟩
  have hz2 := hb2.size; (try simp at hz2); obtain ⟨hc2, hf2⟩ := bcell hb2; have hB2 := below_step (w := w) hb2 (by repeat (first | assumption | exact Below.refl _ _ | (with_reducible refine Below.drew ?_) | (with_reducible refine below_drewN' ?_ _) | (with_reducible refine below_al ?_) | ((with_reducible refine below_set ?_ ?_); rotate_left; focus (first | (simp; done) | (simp; omega)))))
  have le_w_w2 : w.heap.size ≤ w2.heap.size := by omega
  try have lt_w_w2 : w.heap.size < w2.heap.size := by omega
  have le_w1_w2 : w1.heap.size ≤ w2.heap.size := by omega
  try have lt_w1_w2 : w1.heap.size < w2.heap.size := by omega
  go_wp2_with fail
  refine (shift_c _ _ _ (hL.below (by repeat (first | assumption | exact Below.refl _ _ | (with_reducible refine Below.drew ?_) | (with_reducible refine below_drewN' ?_ _) | (with_reducible refine below_al ?_) | ((with_reducible refine below_set ?_ ?_); rotate_left; focus (first | (simp; done) | (simp; omega))))))).mono ?_; rintro e w3 ⟨rfl, hb3⟩
  have hz3 := hb3.size; (try simp at hz3); obtain ⟨hc3, hf3⟩ := bcell hb3; have hB3 := below_step (w := w) hb3 (by repeat (first | assumption | exact Below.refl _ _ | (with_reducible refine Below.drew ?_) | (with_reducible refine below_drewN' ?_ _) | (with_reducible refine below_al ?_) | ((with_reducible refine below_set ?_ ?_); rotate_left; focus (first | (simp; done) | (simp; omega)))))
  have le_w_w3 : w.heap.size ≤ w3.heap.size := by omega
  try have lt_w_w3 : w.heap.size < w3.heap.size := by omega
  have le_w1_w3 : w1.heap.size ≤ w3.heap.size := by omega
  try have lt_w1_w3 : w1.heap.size < w3.heap.size := by omega
  have le_w2_w3 : w2.heap.size ≤ w3.heap.size := by omega
  try have lt_w2_w3 : w2.heap.size < w3.heap.size := by omega
  go_wp2_with fail
  refine (rof_c _ _).mono ?_; rintro e w4 ⟨rfl, hb4⟩
  have hz4 := hb4.size; (try simp at hz4); obtain ⟨hc4, hf4⟩ := bcell hb4; have hB4 := below_step (w := w) hb4 (by repeat (first | assumption | exact Below.refl _ _ | (with_reducible refine Below.drew ?_) | (with_reducible refine below_drewN' ?_ _) | (with_reducible refine below_al ?_) | ((with_reducible refine below_set ?_ ?_); rotate_left; focus (first | (simp; done) | (simp; omega)))))
  have le_w_w4 : w.heap.size ≤ w4.heap.size := by omega
  try have lt_w_w4 : w.heap.size < w4.heap.size := by omega
  have le_w1_w4 : w1.heap.size ≤ w4.heap.size := by omega
  try have lt_w1_w4 : w1.heap.size < w4.heap.size := by omega
  have le_w2_w4 : w2.heap.size ≤ w4.heap.size := by omega
  try have lt_w2_w4 : w2.heap.size < w4.heap.size := by omega
  have le_w3_w4 : w3.heap.size ≤ w4.heap.size := by omega
  try have lt_w3_w4 : w3.heap.size < w4.heap.size := by omega
  go_wp2_with fail
  refine (rof_c _ _).mono ?_; rintro e w5 ⟨rfl, hb5⟩
  have hz5 := hb5.size; (try simp at hz5); obtain ⟨hc5, hf5⟩ := bcell hb5; have hB5 := below_step (w := w) hb5 (by repeat (first | assumption | exact Below.refl _ _ | (with_reducible refine Below.drew ?_) | (with_reducible refine below_drewN' ?_ _) | (with_reducible refine below_al ?_) | ((with_reducible refine below_set ?_ ?_); rotate_left; focus (first | (simp; done) | (simp; omega)))))
  have le_w_w5 : w.heap.size ≤ w5.heap.size := by omega
  try have lt_w_w5 : w.heap.size < w5.heap.size := by omega
  have le_w1_w5 : w1.heap.size ≤ w5.heap.size := by omega
  try have lt_w1_w5 : w1.heap.size < w5.heap.size := by omega
  have le_w2_w5 : w2.heap.size ≤ w5.heap.size := by omega
  try have lt_w2_w5 : w2.heap.size < w5.heap.size := by omega
  have le_w3_w5 : w3.heap.size ≤ w5.heap.size := by omega
  try have lt_w3_w5 : w3.heap.size < w5.heap.size := by omega
  have le_w4_w5 : w4.heap.size ≤ w5.heap.size := by omega
  try have lt_w4_w5 : w4.heap.size < w5.heap.size := by omega
  go_wp2_with fail
  refine (rend_c _ _).mono ?_; rintro e w6 ⟨rfl, hb6⟩
  have hz6 := hb6.size; (try simp at hz6); obtain ⟨hc6, hf6⟩ := bcell hb6; have hB6 := below_step (w := w) hb6 (by repeat (first | assumption | exact Below.refl _ _ | (with_reducible refine Below.drew ?_) | (with_reducible refine below_drewN' ?_ _) | (with_reducible refine below_al ?_) | ((with_reducible refine below_set ?_ ?_); rotate_left; focus (first | (simp; done) | (simp; omega)))))
  have le_w_w6 : w.heap.size ≤ w6.heap.size := by omega
  try have lt_w_w6 : w.heap.size < w6.heap.size := by omega
  have le_w1_w6 : w1.heap.size ≤ w6.heap.size := by omega
  try have lt_w1_w6 : w1.heap.size < w6.heap.size := by omega
  have le_w2_w6 : w2.heap.size ≤ w6.heap.size := by omega
  try have lt_w2_w6 : w2.heap.size < w6.heap.size := by omega
  have le_w3_w6 : w3.heap.size ≤ w6.heap.size := by omega
  try have lt_w3_w6 : w3.heap.size < w6.heap.size := by omega
  have le_w4_w6 : w4.heap.size ≤ w6.heap.size := by omega
  try have lt_w4_w6 : w4.heap.size < w6.heap.size := by omega
  have le_w5_w6 : w5.heap.size ≤ w6.heap.size := by omega
  try have lt_w5_w6 : w5.heap.size < w6.heap.size := by omega
  go_wp2_with fail
  refine (move_c _ _ _ _ (hL.below (by repeat (first | assumption | exact Below.refl _ _ | (with_reducible refine Below.drew ?_) | (with_reducible refine below_drewN' ?_ _) | (with_reducible refine below_al ?_) | ((with_reducible refine below_set ?_ ?_); rotate_left; focus (first | (simp; done) | (simp; omega))))))).mono ?_; rintro e w7 ⟨rfl, hb7⟩
  have hz7 := hb7.size; (try simp at hz7); obtain ⟨hc7, hf7⟩ := bcell hb7; have hB7 := below_step (w := w) hb7 (by repeat (first | assumption | exact Below.refl _ _ | (with_reducible refine Below.drew ?_) | (with_reducible refine below_drewN' ?_ _) | (with_reducible refine below_al ?_) | ((with_reducible refine below_set ?_ ?_); rotate_left; focus (first | (simp; done) | (simp; omega)))))
  have le_w_w7 : w.heap.size ≤ w7.heap.size := by omega
  try have lt_w_w7 : w.heap.size < w7.heap.size := by omega
  have le_w1_w7 : w1.heap.size ≤ w7.heap.size := by omega
  try have lt_w1_w7 : w1.heap.size < w7.heap.size := by omega
  have le_w2_w7 : w2.heap.size ≤ w7.heap.size := by omega
  try have lt_w2_w7 : w2.heap.size < w7.heap.size := by omega
  have le_w3_w7 : w3.heap.size ≤ w7.heap.size := by omega
  try have lt_w3_w7 : w3.heap.size < w7.heap.size := by omega
  have le_w4_w7 : w4.heap.size ≤ w7.heap.size := by omega
  try have lt_w4_w7 : w4.heap.size < w7.heap.size := by omega
  have le_w5_w7 : w5.heap.size ≤ w7.heap.size := by omega
  try have lt_w5_w7 : w5.heap.size < w7.heap.size := by omega
  have le_w6_w7 : w6.heap.size ≤ w7.heap.size := by omega
  try have lt_w6_w7 : w6.heap.size < w7.heap.size := by omega
  go_wp2_with fail
  go_ret
  exact ⟨rfl, by repeat (first | assumption | exact Below.refl _ _ | (with_reducible refine Below.drew ?_) | (with_reducible refine below_drewN' ?_ _) | (with_reducible refine below_al ?_) | ((with_reducible refine below_set ?_ ?_); rotate_left; focus (first | (simp; done) | (simp; omega))))⟩
set_option maxHeartbeats 1000000 in
theorem monthsEras_f_pl_t (n k : Int) (k1 : -32768 ≤ k) (k2 : k ≤ 32767) (h1 : 1 ≤ n) (h2 : n ≤ 3652059) (he : Mon.okB n 4800 = false) (hy : Mon.okB n 12 = true) (hz : Mon.okB (Mon.endV n) k = true) (m2 : (Cal.mOf n == 2) = false) (w : World) (hL : Laid w) : Calls Tryd.prog 8 #[.int .i64 n, .int .i16 k] w fun e w' => e = .returned (.bool true) ∧ Below w.heap.size w w' := by
  obtain ⟨o1, o2, o3, o4⟩ := of_in h1 h2
  have od := dayB_in h1 h2
  have A := Cal.day_of n h1 h2
  have y1 := A.y1; have y2 := A.y2
  clear A
  have e0 := ok_no he
  have el : ¬ n + 146097 ≤ 3652059 := by
    have q := Mon.era_ok n h1 h2; rw [he] at q; exact of_decide_eq_false q.symm
  have e1 := ok_yes hy
  obtain ⟨x1, x2⟩ := Mon.V_bd (eom := false) hy
  obtain ⟨a1, a2, a3⟩ := Mon.of_V (eom := false) hy
  rw [(Mon.year_YN n h1 h2).1] at a1; rw [(Mon.year_YN n h1 h2).2] at a2
  rw [Mon.year_plain h1 h2 (fun c => absurd c.1 (by simpa using m2))] at a3
  obtain ⟨r1, r2, r3, r4⟩ := of_in x1 x2
  rw [a1] at r1; rw [a2] at r2; rw [a3] at r3
  clear a1 a2 a3
  have e2 := ok_yes hz
  have ez := Mon.end_move h1 h2 hz
  have hB : Below w.heap.size w w := Below.refl _ _
  go_enter Tryd.func8, Tryd.ntmps8
  go_wp2_with fail
  refine (shown05_c _ (hL.below (by repeat (first | assumption | exact Below.refl _ _ | (with_reducible refine Below.drew ?_) | (with_reducible refine below_drewN' ?_ _) | (with_reducible refine below_al ?_) | ((with_reducible refine below_set ?_ ?_); rotate_left; focus (first | (simp; done) | (simp; omega))))))).mono ?_; rintro e w1 ⟨rfl, hb1⟩
  have hz1 := hb1.size; (try simp at hz1); obtain ⟨hc1, hf1⟩ := bcell hb1; have hB1 := below_step (w := w) hb1 (by repeat (first | assumption | exact Below.refl _ _ | (with_reducible refine Below.drew ?_) | (with_reducible refine below_drewN' ?_ _) | (with_reducible refine below_al ?_) | ((with_reducible refine below_set ?_ ?_); rotate_left; focus (first | (simp; done) | (simp; omega)))))
  have le_w_w1 : w.heap.size ≤ w1.heap.size := by omega
  try have lt_w_w1 : w.heap.size < w1.heap.size := by omega
  go_wp2_with fail
  refine (rday_c _ _).mono ?_; rintro e w' ⟨rfl, rfl⟩
  go_wp2_with fail
  refine (shift_c _ _ _ (hL.below (by repeat (first | assumption | exact Below.refl _ _ | (with_reducible refine Below.drew ?_) | (with_reducible refine below_drewN' ?_ _) | (with_reducible refine below_al ?_) | ((with_reducible refine below_set ?_ ?_); rotate_left; focus (first | (simp; done) | (simp; omega))))))).mono ?_; rintro e w2 ⟨rfl, hb2⟩
  have hz2 := hb2.size; (try simp at hz2); obtain ⟨hc2, hf2⟩ := bcell hb2; have hB2 := below_step (w := w) hb2 (by repeat (first | assumption | exact Below.refl _ _ | (with_reducible refine Below.drew ?_) | (with_reducible refine below_drewN' ?_ _) | (with_reducible refine below_al ?_) | ((with_reducible refine below_set ?_ ?_); rotate_left; focus (first | (simp; done) | (simp; omega)))))
  have le_w_w2 : w.heap.size ≤ w2.heap.size := by omega
  try have lt_w_w2 : w.heap.size < w2.heap.size := by omega
  have le_w1_w2 : w1.heap.size ≤ w2.heap.size := by omega
  try have lt_w1_w2 : w1.heap.size < w2.heap.size := by omega
  go_wp2_with fail
  refine (shift_c _ _ _ (hL.below (by repeat (first | assumption | exact Below.refl _ _ | (with_reducible refine Below.drew ?_) | (with_reducible refine below_drewN' ?_ _) | (with_reducible refine below_al ?_) | ((with_reducible refine below_set ?_ ?_); rotate_left; focus (first | (simp; done) | (simp; omega))))))).mono ?_; rintro e w3 ⟨rfl, hb3⟩
  have hz3 := hb3.size; (try simp at hz3); obtain ⟨hc3, hf3⟩ := bcell hb3; have hB3 := below_step (w := w) hb3 (by repeat (first | assumption | exact Below.refl _ _ | (with_reducible refine Below.drew ?_) | (with_reducible refine below_drewN' ?_ _) | (with_reducible refine below_al ?_) | ((with_reducible refine below_set ?_ ?_); rotate_left; focus (first | (simp; done) | (simp; omega)))))
  have le_w_w3 : w.heap.size ≤ w3.heap.size := by omega
  try have lt_w_w3 : w.heap.size < w3.heap.size := by omega
  have le_w1_w3 : w1.heap.size ≤ w3.heap.size := by omega
  try have lt_w1_w3 : w1.heap.size < w3.heap.size := by omega
  have le_w2_w3 : w2.heap.size ≤ w3.heap.size := by omega
  try have lt_w2_w3 : w2.heap.size < w3.heap.size := by omega
  go_wp2_with fail
  refine (rof_c _ _).mono ?_; rintro e w4 ⟨rfl, hb4⟩
  have hz4 := hb4.size; (try simp at hz4); obtain ⟨hc4, hf4⟩ := bcell hb4; have hB4 := below_step (w := w) hb4 (by repeat (first | assumption | exact Below.refl _ _ | (with_reducible refine Below.drew ?_) | (with_reducible refine below_drewN' ?_ _) | (with_reducible refine below_al ?_) | ((with_reducible refine below_set ?_ ?_); rotate_left; focus (first | (simp; done) | (simp; omega)))))
  have le_w_w4 : w.heap.size ≤ w4.heap.size := by omega
  try have lt_w_w4 : w.heap.size < w4.heap.size := by omega
  have le_w1_w4 : w1.heap.size ≤ w4.heap.size := by omega
  try have lt_w1_w4 : w1.heap.size < w4.heap.size := by omega
  have le_w2_w4 : w2.heap.size ≤ w4.heap.size := by omega
  try have lt_w2_w4 : w2.heap.size < w4.heap.size := by omega
  have le_w3_w4 : w3.heap.size ≤ w4.heap.size := by omega
  try have lt_w3_w4 : w3.heap.size < w4.heap.size := by omega
  go_wp2_with fail
  refine (rof_c _ _).mono ?_; rintro e w5 ⟨rfl, hb5⟩
  have hz5 := hb5.size; (try simp at hz5); obtain ⟨hc5, hf5⟩ := bcell hb5; have hB5 := below_step (w := w) hb5 (by repeat (first | assumption | exact Below.refl _ _ | (with_reducible refine Below.drew ?_) | (with_reducible refine below_drewN' ?_ _) | (with_reducible refine below_al ?_) | ((with_reducible refine below_set ?_ ?_); rotate_left; focus (first | (simp; done) | (simp; omega)))))
  have le_w_w5 : w.heap.size ≤ w5.heap.size := by omega
  try have lt_w_w5 : w.heap.size < w5.heap.size := by omega
  have le_w1_w5 : w1.heap.size ≤ w5.heap.size := by omega
  try have lt_w1_w5 : w1.heap.size < w5.heap.size := by omega
  have le_w2_w5 : w2.heap.size ≤ w5.heap.size := by omega
  try have lt_w2_w5 : w2.heap.size < w5.heap.size := by omega
  have le_w3_w5 : w3.heap.size ≤ w5.heap.size := by omega
  try have lt_w3_w5 : w3.heap.size < w5.heap.size := by omega
  have le_w4_w5 : w4.heap.size ≤ w5.heap.size := by omega
  try have lt_w4_w5 : w4.heap.size < w5.heap.size := by omega
  go_wp2_with fail
  refine (rend_c _ _).mono ?_; rintro e w6 ⟨rfl, hb6⟩
  have hz6 := hb6.size; (try simp at hz6); obtain ⟨hc6, hf6⟩ := bcell hb6; have hB6 := below_step (w := w) hb6 (by repeat (first | assumption | exact Below.refl _ _ | (with_reducible refine Below.drew ?_) | (with_reducible refine below_drewN' ?_ _) | (with_reducible refine below_al ?_) | ((with_reducible refine below_set ?_ ?_); rotate_left; focus (first | (simp; done) | (simp; omega)))))
  have le_w_w6 : w.heap.size ≤ w6.heap.size := by omega
  try have lt_w_w6 : w.heap.size < w6.heap.size := by omega
  have le_w1_w6 : w1.heap.size ≤ w6.heap.size := by omega
  try have lt_w1_w6 : w1.heap.size < w6.heap.size := by omega
  have le_w2_w6 : w2.heap.size ≤ w6.heap.size := by omega
  try have lt_w2_w6 : w2.heap.size < w6.heap.size := by omega
  have le_w3_w6 : w3.heap.size ≤ w6.heap.size := by omega
  try have lt_w3_w6 : w3.heap.size < w6.heap.size := by omega
  have le_w4_w6 : w4.heap.size ≤ w6.heap.size := by omega
  try have lt_w4_w6 : w4.heap.size < w6.heap.size := by omega
  have le_w5_w6 : w5.heap.size ≤ w6.heap.size := by omega
  try have lt_w5_w6 : w5.heap.size < w6.heap.size := by omega
  go_wp2_with fail
  refine (move_c _ _ _ _ (hL.below (by repeat (first | assumption | exact Below.refl _ _ | (with_reducible refine Below.drew ?_) | (with_reducible refine below_drewN' ?_ _) | (with_reducible refine below_al ?_) | ((with_reducible refine below_set ?_ ?_); rotate_left; focus (first | (simp; done) | (simp; omega))))))).mono ?_; rintro e w7 ⟨rfl, hb7⟩
  have hz7 := hb7.size; (try simp at hz7); obtain ⟨hc7, hf7⟩ := bcell hb7; have hB7 := below_step (w := w) hb7 (by repeat (first | assumption | exact Below.refl _ _ | (with_reducible refine Below.drew ?_) | (with_reducible refine below_drewN' ?_ _) | (with_reducible refine below_al ?_) | ((with_reducible refine below_set ?_ ?_); rotate_left; focus (first | (simp; done) | (simp; omega)))))
  have le_w_w7 : w.heap.size ≤ w7.heap.size := by omega
  try have lt_w_w7 : w.heap.size < w7.heap.size := by omega
  have le_w1_w7 : w1.heap.size ≤ w7.heap.size := by omega
  try have lt_w1_w7 : w1.heap.size < w7.heap.size := by omega
  have le_w2_w7 : w2.heap.size ≤ w7.heap.size := by omega
  try have lt_w2_w7 : w2.heap.size < w7.heap.size := by omega
  have le_w3_w7 : w3.heap.size ≤ w7.heap.size := by omega
  try have lt_w3_w7 : w3.heap.size < w7.heap.size := by omega
  have le_w4_w7 : w4.heap.size ≤ w7.heap.size := by omega
  try have lt_w4_w7 : w4.heap.size < w7.heap.size := by omega
  have le_w5_w7 : w5.heap.size ≤ w7.heap.size := by omega
  try have lt_w5_w7 : w5.heap.size < w7.heap.size := by omega
  have le_w6_w7 : w6.heap.size ≤ w7.heap.size := by omega
  try have lt_w6_w7 : w6.heap.size < w7.heap.size := by omega
  go_wp2_with fail
  refine (last_c _ _ (hL.below (by repeat (first | assumption | exact Below.refl _ _ | (with_reducible refine Below.drew ?_) | (with_reducible refine below_drewN' ?_ _) | (with_reducible refine below_al ?_) | ((with_reducible refine below_set ?_ ?_); rotate_left; focus (first | (simp; done) | (simp; omega))))))).mono ?_; rintro e w8 ⟨rfl, hb8⟩
  have hz8 := hb8.size; (try simp at hz8); obtain ⟨hc8, hf8⟩ := bcell hb8; have hB8 := below_step (w := w) hb8 (by repeat (first | assumption | exact Below.refl _ _ | (with_reducible refine Below.drew ?_) | (with_reducible refine below_drewN' ?_ _) | (with_reducible refine below_al ?_) | ((with_reducible refine below_set ?_ ?_); rotate_left; focus (first | (simp; done) | (simp; omega)))))
  have le_w_w8 : w.heap.size ≤ w8.heap.size := by omega
  try have lt_w_w8 : w.heap.size < w8.heap.size := by omega
  have le_w1_w8 : w1.heap.size ≤ w8.heap.size := by omega
  try have lt_w1_w8 : w1.heap.size < w8.heap.size := by omega
  have le_w2_w8 : w2.heap.size ≤ w8.heap.size := by omega
  try have lt_w2_w8 : w2.heap.size < w8.heap.size := by omega
  have le_w3_w8 : w3.heap.size ≤ w8.heap.size := by omega
  try have lt_w3_w8 : w3.heap.size < w8.heap.size := by omega
  have le_w4_w8 : w4.heap.size ≤ w8.heap.size := by omega
  try have lt_w4_w8 : w4.heap.size < w8.heap.size := by omega
  have le_w5_w8 : w5.heap.size ≤ w8.heap.size := by omega
  try have lt_w5_w8 : w5.heap.size < w8.heap.size := by omega
  have le_w6_w8 : w6.heap.size ≤ w8.heap.size := by omega
  try have lt_w6_w8 : w6.heap.size < w8.heap.size := by omega
  have le_w7_w8 : w7.heap.size ≤ w8.heap.size := by omega
  try have lt_w7_w8 : w7.heap.size < w8.heap.size := by omega
  go_wp2_with fail
  go_ret
  exact ⟨rfl, by repeat (first | assumption | exact Below.refl _ _ | (with_reducible refine Below.drew ?_) | (with_reducible refine below_drewN' ?_ _) | (with_reducible refine below_al ?_) | ((with_reducible refine below_set ?_ ?_); rotate_left; focus (first | (simp; done) | (simp; omega))))⟩
set_option maxHeartbeats 1000000 in
theorem monthsEras_f_pl_f (n k : Int) (k1 : -32768 ≤ k) (k2 : k ≤ 32767) (h1 : 1 ≤ n) (h2 : n ≤ 3652059) (he : Mon.okB n 4800 = false) (hy : Mon.okB n 12 = true) (hz : Mon.okB (Mon.endV n) k = false) (m2 : (Cal.mOf n == 2) = false) (w : World) (hL : Laid w) : Calls Tryd.prog 8 #[.int .i64 n, .int .i16 k] w fun e w' => e = .returned (.bool true) ∧ Below w.heap.size w w' := by
  obtain ⟨o1, o2, o3, o4⟩ := of_in h1 h2
  have od := dayB_in h1 h2
  have A := Cal.day_of n h1 h2
  have y1 := A.y1; have y2 := A.y2
  clear A
  have e0 := ok_no he
  have el : ¬ n + 146097 ≤ 3652059 := by
    have q := Mon.era_ok n h1 h2; rw [he] at q; exact of_decide_eq_false q.symm
  have e1 := ok_yes hy
  obtain ⟨x1, x2⟩ := Mon.V_bd (eom := false) hy
  obtain ⟨a1, a2, a3⟩ := Mon.of_V (eom := false) hy
  rw [(Mon.year_YN n h1 h2).1] at a1; rw [(Mon.year_YN n h1 h2).2] at a2
  rw [Mon.year_plain h1 h2 (fun c => absurd c.1 (by simpa using m2))] at a3
  obtain ⟨r1, r2, r3, r4⟩ := of_in x1 x2
  rw [a1] at r1; rw [a2] at r2; rw [a3] at r3
  clear a1 a2 a3
  have e2 := ok_no hz
  have hB : Below w.heap.size w w := Below.refl _ _
  go_enter Tryd.func8, Tryd.ntmps8
  go_wp2_with fail
  refine (shown05_c _ (hL.below (by repeat (first | assumption | exact Below.refl _ _ | (with_reducible refine Below.drew ?_) | (with_reducible refine below_drewN' ?_ _) | (with_reducible refine below_al ?_) | ((with_reducible refine below_set ?_ ?_); rotate_left; focus (first | (simp; done) | (simp; omega))))))).mono ?_; rintro e w1 ⟨rfl, hb1⟩
  have hz1 := hb1.size; (try simp at hz1); obtain ⟨hc1, hf1⟩ := bcell hb1; have hB1 := below_step (w := w) hb1 (by repeat (first | assumption | exact Below.refl _ _ | (with_reducible refine Below.drew ?_) | (with_reducible refine below_drewN' ?_ _) | (with_reducible refine below_al ?_) | ((with_reducible refine below_set ?_ ?_); rotate_left; focus (first | (simp; done) | (simp; omega)))))
  have le_w_w1 : w.heap.size ≤ w1.heap.size := by omega
  try have lt_w_w1 : w.heap.size < w1.heap.size := by omega
  go_wp2_with fail
  refine (rday_c _ _).mono ?_; rintro e w' ⟨rfl, rfl⟩
  go_wp2_with fail
  refine (shift_c _ _ _ (hL.below (by repeat (first | assumption | exact Below.refl _ _ | (with_reducible refine Below.drew ?_) | (with_reducible refine below_drewN' ?_ _) | (with_reducible refine below_al ?_) | ((with_reducible refine below_set ?_ ?_); rotate_left; focus (first | (simp; done) | (simp; omega))))))).mono ?_; rintro e w2 ⟨rfl, hb2⟩
  have hz2 := hb2.size; (try simp at hz2); obtain ⟨hc2, hf2⟩ := bcell hb2; have hB2 := below_step (w := w) hb2 (by repeat (first | assumption | exact Below.refl _ _ | (with_reducible refine Below.drew ?_) | (with_reducible refine below_drewN' ?_ _) | (with_reducible refine below_al ?_) | ((with_reducible refine below_set ?_ ?_); rotate_left; focus (first | (simp; done) | (simp; omega)))))
  have le_w_w2 : w.heap.size ≤ w2.heap.size := by omega
  try have lt_w_w2 : w.heap.size < w2.heap.size := by omega
  have le_w1_w2 : w1.heap.size ≤ w2.heap.size := by omega
  try have lt_w1_w2 : w1.heap.size < w2.heap.size := by omega
  go_wp2_with fail
  refine (shift_c _ _ _ (hL.below (by repeat (first | assumption | exact Below.refl _ _ | (with_reducible refine Below.drew ?_) | (with_reducible refine below_drewN' ?_ _) | (with_reducible refine below_al ?_) | ((with_reducible refine below_set ?_ ?_); rotate_left; focus (first | (simp; done) | (simp; omega))))))).mono ?_; rintro e w3 ⟨rfl, hb3⟩
  have hz3 := hb3.size; (try simp at hz3); obtain ⟨hc3, hf3⟩ := bcell hb3; have hB3 := below_step (w := w) hb3 (by repeat (first | assumption | exact Below.refl _ _ | (with_reducible refine Below.drew ?_) | (with_reducible refine below_drewN' ?_ _) | (with_reducible refine below_al ?_) | ((with_reducible refine below_set ?_ ?_); rotate_left; focus (first | (simp; done) | (simp; omega)))))
  have le_w_w3 : w.heap.size ≤ w3.heap.size := by omega
  try have lt_w_w3 : w.heap.size < w3.heap.size := by omega
  have le_w1_w3 : w1.heap.size ≤ w3.heap.size := by omega
  try have lt_w1_w3 : w1.heap.size < w3.heap.size := by omega
  have le_w2_w3 : w2.heap.size ≤ w3.heap.size := by omega
  try have lt_w2_w3 : w2.heap.size < w3.heap.size := by omega
  go_wp2_with fail
  refine (rof_c _ _).mono ?_; rintro e w4 ⟨rfl, hb4⟩
  have hz4 := hb4.size; (try simp at hz4); obtain ⟨hc4, hf4⟩ := bcell hb4; have hB4 := below_step (w := w) hb4 (by repeat (first | assumption | exact Below.refl _ _ | (with_reducible refine Below.drew ?_) | (with_reducible refine below_drewN' ?_ _) | (with_reducible refine below_al ?_) | ((with_reducible refine below_set ?_ ?_); rotate_left; focus (first | (simp; done) | (simp; omega)))))
  have le_w_w4 : w.heap.size ≤ w4.heap.size := by omega
  try have lt_w_w4 : w.heap.size < w4.heap.size := by omega
  have le_w1_w4 : w1.heap.size ≤ w4.heap.size := by omega
  try have lt_w1_w4 : w1.heap.size < w4.heap.size := by omega
  have le_w2_w4 : w2.heap.size ≤ w4.heap.size := by omega
  try have lt_w2_w4 : w2.heap.size < w4.heap.size := by omega
  have le_w3_w4 : w3.heap.size ≤ w4.heap.size := by omega
  try have lt_w3_w4 : w3.heap.size < w4.heap.size := by omega
  go_wp2_with fail
  refine (rof_c _ _).mono ?_; rintro e w5 ⟨rfl, hb5⟩
  have hz5 := hb5.size; (try simp at hz5); obtain ⟨hc5, hf5⟩ := bcell hb5; have hB5 := below_step (w := w) hb5 (by repeat (first | assumption | exact Below.refl _ _ | (with_reducible refine Below.drew ?_) | (with_reducible refine below_drewN' ?_ _) | (with_reducible refine below_al ?_) | ((with_reducible refine below_set ?_ ?_); rotate_left; focus (first | (simp; done) | (simp; omega)))))
  have le_w_w5 : w.heap.size ≤ w5.heap.size := by omega
  try have lt_w_w5 : w.heap.size < w5.heap.size := by omega
  have le_w1_w5 : w1.heap.size ≤ w5.heap.size := by omega
  try have lt_w1_w5 : w1.heap.size < w5.heap.size := by omega
  have le_w2_w5 : w2.heap.size ≤ w5.heap.size := by omega
  try have lt_w2_w5 : w2.heap.size < w5.heap.size := by omega
  have le_w3_w5 : w3.heap.size ≤ w5.heap.size := by omega
  try have lt_w3_w5 : w3.heap.size < w5.heap.size := by omega
  have le_w4_w5 : w4.heap.size ≤ w5.heap.size := by omega
  try have lt_w4_w5 : w4.heap.size < w5.heap.size := by omega
  go_wp2_with fail
  refine (rend_c _ _).mono ?_; rintro e w6 ⟨rfl, hb6⟩
  have hz6 := hb6.size; (try simp at hz6); obtain ⟨hc6, hf6⟩ := bcell hb6; have hB6 := below_step (w := w) hb6 (by repeat (first | assumption | exact Below.refl _ _ | (with_reducible refine Below.drew ?_) | (with_reducible refine below_drewN' ?_ _) | (with_reducible refine below_al ?_) | ((with_reducible refine below_set ?_ ?_); rotate_left; focus (first | (simp; done) | (simp; omega)))))
  have le_w_w6 : w.heap.size ≤ w6.heap.size := by omega
  try have lt_w_w6 : w.heap.size < w6.heap.size := by omega
  have le_w1_w6 : w1.heap.size ≤ w6.heap.size := by omega
  try have lt_w1_w6 : w1.heap.size < w6.heap.size := by omega
  have le_w2_w6 : w2.heap.size ≤ w6.heap.size := by omega
  try have lt_w2_w6 : w2.heap.size < w6.heap.size := by omega
  have le_w3_w6 : w3.heap.size ≤ w6.heap.size := by omega
  try have lt_w3_w6 : w3.heap.size < w6.heap.size := by omega
  have le_w4_w6 : w4.heap.size ≤ w6.heap.size := by omega
  try have lt_w4_w6 : w4.heap.size < w6.heap.size := by omega
  have le_w5_w6 : w5.heap.size ≤ w6.heap.size := by omega
  try have lt_w5_w6 : w5.heap.size < w6.heap.size := by omega
  go_wp2_with fail
  refine (move_c _ _ _ _ (hL.below (by repeat (first | assumption | exact Below.refl _ _ | (with_reducible refine Below.drew ?_) | (with_reducible refine below_drewN' ?_ _) | (with_reducible refine below_al ?_) | ((with_reducible refine below_set ?_ ?_); rotate_left; focus (first | (simp; done) | (simp; omega))))))).mono ?_; rintro e w7 ⟨rfl, hb7⟩
  have hz7 := hb7.size; (try simp at hz7); obtain ⟨hc7, hf7⟩ := bcell hb7; have hB7 := below_step (w := w) hb7 (by repeat (first | assumption | exact Below.refl _ _ | (with_reducible refine Below.drew ?_) | (with_reducible refine below_drewN' ?_ _) | (with_reducible refine below_al ?_) | ((with_reducible refine below_set ?_ ?_); rotate_left; focus (first | (simp; done) | (simp; omega)))))
  have le_w_w7 : w.heap.size ≤ w7.heap.size := by omega
  try have lt_w_w7 : w.heap.size < w7.heap.size := by omega
  have le_w1_w7 : w1.heap.size ≤ w7.heap.size := by omega
  try have lt_w1_w7 : w1.heap.size < w7.heap.size := by omega
  have le_w2_w7 : w2.heap.size ≤ w7.heap.size := by omega
  try have lt_w2_w7 : w2.heap.size < w7.heap.size := by omega
  have le_w3_w7 : w3.heap.size ≤ w7.heap.size := by omega
  try have lt_w3_w7 : w3.heap.size < w7.heap.size := by omega
  have le_w4_w7 : w4.heap.size ≤ w7.heap.size := by omega
  try have lt_w4_w7 : w4.heap.size < w7.heap.size := by omega
  have le_w5_w7 : w5.heap.size ≤ w7.heap.size := by omega
  try have lt_w5_w7 : w5.heap.size < w7.heap.size := by omega
  have le_w6_w7 : w6.heap.size ≤ w7.heap.size := by omega
  try have lt_w6_w7 : w6.heap.size < w7.heap.size := by omega
  go_wp2_with fail
  go_ret
  exact ⟨rfl, by repeat (first | assumption | exact Below.refl _ _ | (with_reducible refine Below.drew ?_) | (with_reducible refine below_drewN' ?_ _) | (with_reducible refine below_al ?_) | ((with_reducible refine below_set ?_ ?_); rotate_left; focus (first | (simp; done) | (simp; omega))))⟩
theorem monthsEras_walk (n k : Int) (k1 : -32768 ≤ k) (k2 : k ≤ 32767) (w : World) (hL : Laid w) : Calls Tryd.prog 8 #[.int .i64 n, .int .i16 k] w fun e w' => e = .returned (.bool true) ∧ Below w.heap.size w w' := by
  by_cases h : 1 ≤ n ∧ n ≤ 3652059
  · cases he : Mon.okB n 4800
    · cases hy : Mon.okB n 12
      · cases hz : Mon.okB (Mon.endV n) k
        · exact monthsEras_f_no_f n k k1 k2 h.1 h.2 he hy hz w hL
        · exact monthsEras_f_no_t n k k1 k2 h.1 h.2 he hy hz w hL
      · cases hz : Mon.okB (Mon.endV n) k
        · cases m2 : Cal.mOf n == 2
          · exact monthsEras_f_pl_f n k k1 k2 h.1 h.2 he hy hz m2 w hL
          · cases d29 : Cal.dOf n == 29
            · exact monthsEras_f_feb2_f n k k1 k2 h.1 h.2 he hy hz m2 d29 w hL
            · exact monthsEras_f_feb_f n k k1 k2 h.1 h.2 he hy hz m2 d29 w hL
        · cases m2 : Cal.mOf n == 2
          · exact monthsEras_f_pl_t n k k1 k2 h.1 h.2 he hy hz m2 w hL
          · cases d29 : Cal.dOf n == 29
            · exact monthsEras_f_feb2_t n k k1 k2 h.1 h.2 he hy hz m2 d29 w hL
            · exact monthsEras_f_feb_t n k k1 k2 h.1 h.2 he hy hz m2 d29 w hL
    · cases hy : Mon.okB n 12
      · cases hz : Mon.okB (Mon.endV n) k
        · exact monthsEras_t_no_f n k k1 k2 h.1 h.2 he hy hz w hL
        · exact monthsEras_t_no_t n k k1 k2 h.1 h.2 he hy hz w hL
      · cases hz : Mon.okB (Mon.endV n) k
        · cases m2 : Cal.mOf n == 2
          · exact monthsEras_t_pl_f n k k1 k2 h.1 h.2 he hy hz m2 w hL
          · cases d29 : Cal.dOf n == 29
            · exact monthsEras_t_feb2_f n k k1 k2 h.1 h.2 he hy hz m2 d29 w hL
            · exact monthsEras_t_feb_f n k k1 k2 h.1 h.2 he hy hz m2 d29 w hL
        · cases m2 : Cal.mOf n == 2
          · exact monthsEras_t_pl_t n k k1 k2 h.1 h.2 he hy hz m2 w hL
          · cases d29 : Cal.dOf n == 29
            · exact monthsEras_t_feb2_t n k k1 k2 h.1 h.2 he hy hz m2 d29 w hL
            · exact monthsEras_t_feb_t n k k1 k2 h.1 h.2 he hy hz m2 d29 w hL
  · exact monthsEras_out n k k1 k2 (show _ ∨ _ by omega) w hL
end Go.Proofs.YtmaocplnikijnaaDoor
