/- The walk of RuleMany: the law returns true for every input. Conditions: the table of months' lengths lies as the program's text lays it. -/
import Derived.Test.YtjcjchapfiokeaaDoorRulShown
import Derived.Test.YtjcjchapfiokeaaDoorRulM
import Derived.BigQuiet
namespace Go.Proofs.YtjcjchapfiokeaaDoor
open Go.RowKit
set_option linter.unusedVariables false
set_option maxHeartbeats 8000000 in
theorem many_no (kd mo da kk off sh fr to i : Int) (hm : Rul.may kd mo da kk off sh fr to = false) (w : World) (hL : Laid w) : Calls Tryd.prog 6 #[.agg #[.int .i64 kd, .int .i64 mo, .int .i64 da, .int .i64 kk, .int .i64 off, .int .i64 sh, .int .i64 fr, .int .i64 to], .int .u16 i] w fun e w' => e = .returned (.bool true) ∧ Below w.heap.size w w' := by
  have hB : Below w.heap.size w w := Below.refl _ _
  go_enter Tryd.func6, Tryd.ntmps6
  go_wp2_with fail
  refine (shown12_c _ (hL.below (by repeat (first | assumption | exact Below.refl _ _ | (with_reducible refine Below.drew ?_) | (with_reducible refine below_drewN' ?_ _) | (with_reducible refine below_al ?_) | ((with_reducible refine below_set ?_ ?_); rotate_left; focus (first | (simp; done) | (simp; omega))))))).mono ?_; rintro e w1 ⟨rfl, hb1⟩
  have hz1 := hb1.size; (try simp at hz1); obtain ⟨hc1, hf1⟩ := bcell hb1; have hB1 := below_step (w := w) hb1 (by repeat (first | assumption | exact Below.refl _ _ | (with_reducible refine Below.drew ?_) | (with_reducible refine below_drewN' ?_ _) | (with_reducible refine below_al ?_) | ((with_reducible refine below_set ?_ ?_); rotate_left; focus (first | (simp; done) | (simp; omega)))))
  have le_w_w1 : w.heap.size ≤ w1.heap.size := by omega
  try have lt_w_w1 : w.heap.size < w1.heap.size := by omega
  go_wp2_with fail
  refine (rruleMay_c _ _ _ _ _ _ _ _ _).mono ?_; rintro e w2 ⟨rfl, hb2⟩
  have hz2 := hb2.size; (try simp at hz2); obtain ⟨hc2, hf2⟩ := bcell hb2; have hB2 := below_step (w := w) hb2 (by repeat (first | assumption | exact Below.refl _ _ | (with_reducible refine Below.drew ?_) | (with_reducible refine below_drewN' ?_ _) | (with_reducible refine below_al ?_) | ((with_reducible refine below_set ?_ ?_); rotate_left; focus (first | (simp; done) | (simp; omega)))))
  have le_w_w2 : w.heap.size ≤ w2.heap.size := by omega
  try have lt_w_w2 : w.heap.size < w2.heap.size := by omega
  have le_w1_w2 : w1.heap.size ≤ w2.heap.size := by omega
  try have lt_w1_w2 : w1.heap.size < w2.heap.size := by omega
  go_wp2_with fail
  go_ret
  exact ⟨rfl, by repeat (first | assumption | exact Below.refl _ _ | (with_reducible refine Below.drew ?_) | (with_reducible refine below_drewN' ?_ _) | (with_reducible refine below_al ?_) | ((with_reducible refine below_set ?_ ?_); rotate_left; focus (first | (simp; done) | (simp; omega))))⟩
set_option maxHeartbeats 8000000 in
theorem many_3 (kd mo da kk off sh fr to i : Int) (hm : Rul.may 3 mo da kk off sh fr to = true) (w : World) (hL : Laid w) : Calls Tryd.prog 6 #[.agg #[.int .i64 3, .int .i64 mo, .int .i64 da, .int .i64 kk, .int .i64 off, .int .i64 sh, .int .i64 fr, .int .i64 to], .int .u16 i] w fun e w' => e = .returned (.bool true) ∧ Below w.heap.size w w' := by
  have hB : Below w.heap.size w w := Below.refl _ _
  go_enter Tryd.func6, Tryd.ntmps6
  go_wp2_with fail
  refine (shown12_c _ (hL.below (by repeat (first | assumption | exact Below.refl _ _ | (with_reducible refine Below.drew ?_) | (with_reducible refine below_drewN' ?_ _) | (with_reducible refine below_al ?_) | ((with_reducible refine below_set ?_ ?_); rotate_left; focus (first | (simp; done) | (simp; omega))))))).mono ?_; rintro e w1 ⟨rfl, hb1⟩
  have hz1 := hb1.size; (try simp at hz1); obtain ⟨hc1, hf1⟩ := bcell hb1; have hB1 := below_step (w := w) hb1 (by repeat (first | assumption | exact Below.refl _ _ | (with_reducible refine Below.drew ?_) | (with_reducible refine below_drewN' ?_ _) | (with_reducible refine below_al ?_) | ((with_reducible refine below_set ?_ ?_); rotate_left; focus (first | (simp; done) | (simp; omega)))))
  have le_w_w1 : w.heap.size ≤ w1.heap.size := by omega
  try have lt_w_w1 : w.heap.size < w1.heap.size := by omega
  go_wp2_with fail
  refine (rruleMay_c _ _ _ _ _ _ _ _ _).mono ?_; rintro e w2 ⟨rfl, hb2⟩
  have hz2 := hb2.size; (try simp at hz2); obtain ⟨hc2, hf2⟩ := bcell hb2; have hB2 := below_step (w := w) hb2 (by repeat (first | assumption | exact Below.refl _ _ | (with_reducible refine Below.drew ?_) | (with_reducible refine below_drewN' ?_ _) | (with_reducible refine below_al ?_) | ((with_reducible refine below_set ?_ ?_); rotate_left; focus (first | (simp; done) | (simp; omega)))))
  have le_w_w2 : w.heap.size ≤ w2.heap.size := by omega
  try have lt_w_w2 : w.heap.size < w2.heap.size := by omega
  have le_w1_w2 : w1.heap.size ≤ w2.heap.size := by omega
  try have lt_w1_w2 : w1.heap.size < w2.heap.size := by omega
  go_wp2_with fail
  go_ret
  exact ⟨rfl, by repeat (first | assumption | exact Below.refl _ _ | (with_reducible refine Below.drew ?_) | (with_reducible refine below_drewN' ?_ _) | (with_reducible refine below_al ?_) | ((with_reducible refine below_set ?_ ?_); rotate_left; focus (first | (simp; done) | (simp; omega))))⟩
set_option maxHeartbeats 8000000 in
theorem many_a0 (kd mo da kk off sh fr to i : Int) (y b : Int) (hm : Rul.may 0 2 29 kk off sh fr to = true) (hp : Hid (Rul.mayP 0 2 29 kk off sh fr to)) (i1 : 0 ≤ i) (i2 : i ≤ 65535) (f1 : 1 ≤ fr) (f2 : fr ≤ to) (f3 : to ≤ 9999) (y1 : 1 ≤ y) (y2 : y ≤ 9999) (hy : fr + i % (to - fr + 1) = y) (hb : Rul.ba 0 2 29 kk off fr to y = b) (pb : Rul.pos b = false) (hl : Cal.leapB y = false) (w : World) (hL : Laid w) : Calls Tryd.prog 6 #[.agg #[.int .i64 0, .int .i64 2, .int .i64 29, .int .i64 kk, .int .i64 off, .int .i64 sh, .int .i64 fr, .int .i64 to], .int .u16 i] w fun e w' => e = .returned (.bool true) ∧ Below w.heap.size w w' := by
  have hB : Below w.heap.size w w := Below.refl _ _
  go_enter Tryd.func6, Tryd.ntmps6
  go_wp2_with fail
  refine (shown12_c _ (hL.below (by repeat (first | assumption | exact Below.refl _ _ | (with_reducible refine Below.drew ?_) | (with_reducible refine below_drewN' ?_ _) | (with_reducible refine below_al ?_) | ((with_reducible refine below_set ?_ ?_); rotate_left; focus (first | (simp; done) | (simp; omega))))))).mono ?_; rintro e w1 ⟨rfl, hb1⟩
  have hz1 := hb1.size; (try simp at hz1); obtain ⟨hc1, hf1⟩ := bcell hb1; have hB1 := below_step (w := w) hb1 (by repeat (first | assumption | exact Below.refl _ _ | (with_reducible refine Below.drew ?_) | (with_reducible refine below_drewN' ?_ _) | (with_reducible refine below_al ?_) | ((with_reducible refine below_set ?_ ?_); rotate_left; focus (first | (simp; done) | (simp; omega)))))
  have le_w_w1 : w.heap.size ≤ w1.heap.size := by omega
  try have lt_w_w1 : w.heap.size < w1.heap.size := by omega
  go_wp2_with fail
  refine (rruleMay_c _ _ _ _ _ _ _ _ _).mono ?_; rintro e w2 ⟨rfl, hb2⟩
  have hz2 := hb2.size; (try simp at hz2); obtain ⟨hc2, hf2⟩ := bcell hb2; have hB2 := below_step (w := w) hb2 (by repeat (first | assumption | exact Below.refl _ _ | (with_reducible refine Below.drew ?_) | (with_reducible refine below_drewN' ?_ _) | (with_reducible refine below_al ?_) | ((with_reducible refine below_set ?_ ?_); rotate_left; focus (first | (simp; done) | (simp; omega)))))
  have le_w_w2 : w.heap.size ≤ w2.heap.size := by omega
  try have lt_w_w2 : w.heap.size < w2.heap.size := by omega
  have le_w1_w2 : w1.heap.size ≤ w2.heap.size := by omega
  try have lt_w1_w2 : w1.heap.size < w2.heap.size := by omega
  go_wp2_with fail
  go_quiet (fail)
  have l2_w : w.heap.size < (w2.drewN nq).heap.size := by simpa using lt_w_w2
  go_wp2_with fail
  refine (ruleBase_c _ _ _ _ _ _ _ _ _ hp.out _ (hL.below (by repeat (first | assumption | exact Below.refl _ _ | (with_reducible refine Below.drew ?_) | (with_reducible refine below_drewN' ?_ _) | (with_reducible refine below_al ?_) | ((with_reducible refine below_set ?_ ?_); rotate_left; focus (first | (simp; done) | (simp; omega))))))).mono ?_; rintro e w3 ⟨rfl, hb3⟩
  have hz3 := hb3.size; (try simp at hz3); obtain ⟨hc3, hf3⟩ := bcell hb3; have hB3 := below_step (w := w) hb3 (by repeat (first | assumption | exact Below.refl _ _ | (with_reducible refine Below.drew ?_) | (with_reducible refine below_drewN' ?_ _) | (with_reducible refine below_al ?_) | ((with_reducible refine below_set ?_ ?_); rotate_left; focus (first | (simp; done) | (simp; omega)))))
  have le_w_w3 : w.heap.size ≤ w3.heap.size := by omega
  try have lt_w_w3 : w.heap.size < w3.heap.size := by omega
  have le_w1_w3 : w1.heap.size ≤ w3.heap.size := by omega
  try have lt_w1_w3 : w1.heap.size < w3.heap.size := by omega
  have le_w2_w3 : w2.heap.size ≤ w3.heap.size := by omega
  try have lt_w2_w3 : w2.heap.size < w3.heap.size := by omega
  have cw0 : w3.cell? ⟨w.heap.size, 0, none⟩ = some (.int .i64 0) := by rw [hc3 _ _ (by simpa using lt_w_w2)]; simp [*, go_sem]
  have cw1 : w3.cell? ⟨w.heap.size, 1, none⟩ = some (.int .i64 2) := by rw [hc3 _ _ (by simpa using lt_w_w2)]; simp [*, go_sem]
  have cw2 : w3.cell? ⟨w.heap.size, 2, none⟩ = some (.int .i64 29) := by rw [hc3 _ _ (by simpa using lt_w_w2)]; simp [*, go_sem]
  have cw3 : w3.cell? ⟨w.heap.size, 3, none⟩ = some (.int .i64 kk) := by rw [hc3 _ _ (by simpa using lt_w_w2)]; simp [*, go_sem]
  have cw4 : w3.cell? ⟨w.heap.size, 4, none⟩ = some (.int .i64 off) := by rw [hc3 _ _ (by simpa using lt_w_w2)]; simp [*, go_sem]
  have cw5 : w3.cell? ⟨w.heap.size, 5, none⟩ = some (.int .i64 sh) := by rw [hc3 _ _ (by simpa using lt_w_w2)]; simp [*, go_sem]
  have cw6 : w3.cell? ⟨w.heap.size, 6, none⟩ = some (.int .i64 fr) := by rw [hc3 _ _ (by simpa using lt_w_w2)]; simp [*, go_sem]
  have cw7 : w3.cell? ⟨w.heap.size, 7, none⟩ = some (.int .i64 to) := by rw [hc3 _ _ (by simpa using lt_w_w2)]; simp [*, go_sem]
  go_wp2_with fail
  refine (rleap_c _ _).mono ?_; rintro e w' ⟨rfl, rfl⟩
  go_wp2_with fail
  go_ret
  exact ⟨rfl, by repeat (first | assumption | exact Below.refl _ _ | (with_reducible refine Below.drew ?_) | (with_reducible refine below_drewN' ?_ _) | (with_reducible refine below_al ?_) | ((with_reducible refine below_set ?_ ?_); rotate_left; focus (first | (simp; done) | (simp; omega))))⟩
set_option maxHeartbeats 8000000 in
theorem many_a1 (kd mo da kk off sh fr to i : Int) (y b : Int) (hm : Rul.may 0 2 29 kk off sh fr to = true) (hp : Hid (Rul.mayP 0 2 29 kk off sh fr to)) (i1 : 0 ≤ i) (i2 : i ≤ 65535) (f1 : 1 ≤ fr) (f2 : fr ≤ to) (f3 : to ≤ 9999) (y1 : 1 ≤ y) (y2 : y ≤ 9999) (hy : fr + i % (to - fr + 1) = y) (hb : Rul.ba 0 2 29 kk off fr to y = b) (pb : Rul.pos b = true) (b1 : 1 ≤ b) (b2 : b ≤ 3652059) (hp0 : Hid (Rul.mayP 0 2 29 kk off 0 fr to)) (hY : Hid (Rul.isB 0 2 29 kk off 0 fr to b = true)) (hN : Hid (∀ m, b - 20 ≤ m → m ≤ b + 20 → m ≠ b → dayB m = true → Rul.isB 0 2 29 kk off 0 fr to m = false)) (hl : Cal.leapB y = true) (w : World) (hL : Laid w) : Calls Tryd.prog 6 #[.agg #[.int .i64 0, .int .i64 2, .int .i64 29, .int .i64 kk, .int .i64 off, .int .i64 sh, .int .i64 fr, .int .i64 to], .int .u16 i] w fun e w' => e = .returned (.bool true) ∧ Below w.heap.size w w' := by
  have hB : Below w.heap.size w w := Below.refl _ _
  go_enter Tryd.func6, Tryd.ntmps6
  go_wp2_with fail
  refine (shown12_c _ (hL.below (by repeat (first | assumption | exact Below.refl _ _ | (with_reducible refine Below.drew ?_) | (with_reducible refine below_drewN' ?_ _) | (with_reducible refine below_al ?_) | ((with_reducible refine below_set ?_ ?_); rotate_left; focus (first | (simp; done) | (simp; omega))))))).mono ?_; rintro e w1 ⟨rfl, hb1⟩
  have hz1 := hb1.size; (try simp at hz1); obtain ⟨hc1, hf1⟩ := bcell hb1; have hB1 := below_step (w := w) hb1 (by repeat (first | assumption | exact Below.refl _ _ | (with_reducible refine Below.drew ?_) | (with_reducible refine below_drewN' ?_ _) | (with_reducible refine below_al ?_) | ((with_reducible refine below_set ?_ ?_); rotate_left; focus (first | (simp; done) | (simp; omega)))))
  have le_w_w1 : w.heap.size ≤ w1.heap.size := by omega
  try have lt_w_w1 : w.heap.size < w1.heap.size := by omega
  go_wp2_with fail
  refine (rruleMay_c _ _ _ _ _ _ _ _ _).mono ?_; rintro e w2 ⟨rfl, hb2⟩
  have hz2 := hb2.size; (try simp at hz2); obtain ⟨hc2, hf2⟩ := bcell hb2; have hB2 := below_step (w := w) hb2 (by repeat (first | assumption | exact Below.refl _ _ | (with_reducible refine Below.drew ?_) | (with_reducible refine below_drewN' ?_ _) | (with_reducible refine below_al ?_) | ((with_reducible refine below_set ?_ ?_); rotate_left; focus (first | (simp; done) | (simp; omega)))))
  have le_w_w2 : w.heap.size ≤ w2.heap.size := by omega
  try have lt_w_w2 : w.heap.size < w2.heap.size := by omega
  have le_w1_w2 : w1.heap.size ≤ w2.heap.size := by omega
  try have lt_w1_w2 : w1.heap.size < w2.heap.size := by omega
  go_wp2_with fail
  go_quiet (fail)
  have l2_w : w.heap.size < (w2.drewN nq).heap.size := by simpa using lt_w_w2
  go_wp2_with fail
  refine (ruleBase_c _ _ _ _ _ _ _ _ _ hp.out _ (hL.below (by repeat (first | assumption | exact Below.refl _ _ | (with_reducible refine Below.drew ?_) | (with_reducible refine below_drewN' ?_ _) | (with_reducible refine below_al ?_) | ((with_reducible refine below_set ?_ ?_); rotate_left; focus (first | (simp; done) | (simp; omega))))))).mono ?_; rintro e w3 ⟨rfl, hb3⟩
  have hz3 := hb3.size; (try simp at hz3); obtain ⟨hc3, hf3⟩ := bcell hb3; have hB3 := below_step (w := w) hb3 (by repeat (first | assumption | exact Below.refl _ _ | (with_reducible refine Below.drew ?_) | (with_reducible refine below_drewN' ?_ _) | (with_reducible refine below_al ?_) | ((with_reducible refine below_set ?_ ?_); rotate_left; focus (first | (simp; done) | (simp; omega)))))
  have le_w_w3 : w.heap.size ≤ w3.heap.size := by omega
  try have lt_w_w3 : w.heap.size < w3.heap.size := by omega
  have le_w1_w3 : w1.heap.size ≤ w3.heap.size := by omega
  try have lt_w1_w3 : w1.heap.size < w3.heap.size := by omega
  have le_w2_w3 : w2.heap.size ≤ w3.heap.size := by omega
  try have lt_w2_w3 : w2.heap.size < w3.heap.size := by omega
  have cw0 : w3.cell? ⟨w.heap.size, 0, none⟩ = some (.int .i64 0) := by rw [hc3 _ _ (by simpa using lt_w_w2)]; simp [*, go_sem]
  have cw1 : w3.cell? ⟨w.heap.size, 1, none⟩ = some (.int .i64 2) := by rw [hc3 _ _ (by simpa using lt_w_w2)]; simp [*, go_sem]
  have cw2 : w3.cell? ⟨w.heap.size, 2, none⟩ = some (.int .i64 29) := by rw [hc3 _ _ (by simpa using lt_w_w2)]; simp [*, go_sem]
  have cw3 : w3.cell? ⟨w.heap.size, 3, none⟩ = some (.int .i64 kk) := by rw [hc3 _ _ (by simpa using lt_w_w2)]; simp [*, go_sem]
  have cw4 : w3.cell? ⟨w.heap.size, 4, none⟩ = some (.int .i64 off) := by rw [hc3 _ _ (by simpa using lt_w_w2)]; simp [*, go_sem]
  have cw5 : w3.cell? ⟨w.heap.size, 5, none⟩ = some (.int .i64 sh) := by rw [hc3 _ _ (by simpa using lt_w_w2)]; simp [*, go_sem]
  have cw6 : w3.cell? ⟨w.heap.size, 6, none⟩ = some (.int .i64 fr) := by rw [hc3 _ _ (by simpa using lt_w_w2)]; simp [*, go_sem]
  have cw7 : w3.cell? ⟨w.heap.size, 7, none⟩ = some (.int .i64 to) := by rw [hc3 _ _ (by simpa using lt_w_w2)]; simp [*, go_sem]
  go_wp2_with fail
  refine (rleap_c _ _).mono ?_; rintro e w' ⟨rfl, rfl⟩
  go_wp2_with fail
  go_loopw [11] (fun a W' => ∃ k : Int, a = .int .i64 k ∧ -20 ≤ k ∧ k ≤ 21 ∧ Below w.heap.size w W' ∧ w3.heap.size < W'.heap.size ∧ W'.cell? ⟨w3.heap.size, 0, none⟩ = some (.int .i64 0) ∧ W'.cell? ⟨w3.heap.size, 1, none⟩ = some (.int .i64 2) ∧ W'.cell? ⟨w3.heap.size, 2, none⟩ = some (.int .i64 29) ∧ W'.cell? ⟨w3.heap.size, 3, none⟩ = some (.int .i64 kk) ∧ W'.cell? ⟨w3.heap.size, 4, none⟩ = some (.int .i64 off) ∧ W'.cell? ⟨w3.heap.size, 5, none⟩ = some (.int .i64 0) ∧ W'.cell? ⟨w3.heap.size, 6, none⟩ = some (.int .i64 fr) ∧ W'.cell? ⟨w3.heap.size, 7, none⟩ = some (.int .i64 to)) (fun a _ => (21 - intOf a).toNat)
  case atStart =>
    refine ⟨-20, rfl, by omega, by omega, by repeat (first | assumption | exact Below.refl _ _ | (with_reducible refine Below.drew ?_) | (with_reducible refine below_drewN' ?_ _) | (with_reducible refine below_al ?_) | ((with_reducible refine below_set ?_ ?_); rotate_left; focus (first | (simp; done) | (simp; omega)))), by simp, ?_, ?_, ?_, ?_, ?_, ?_, ?_, ?_⟩
    all_goals (simp [*, go_sem]; done)
  case round =>
    clear hz1 hc1 hf1 hb1 hB1 hz2 hc2 hf2 hb2 hB2 hz3 hc3 hf3 hb3
    obtain ⟨k, rfl, k1, k2, hBw, s1, c0, c1, c2, c3, c4, c5, c6, c7⟩ := hrel
    by_cases hk : k ≤ 20
    · by_cases k0 : k = 0
      · have hk0 : (k == 0) = true := beq_iff_eq.2 k0
        go_wp2_with fail
        go_roundw
        case rel => exact ⟨1, rfl, by omega, by omega, hBw, s1, c0, c1, c2, c3, c4, c5, c6, c7⟩
        case measure => simp [intOf]; omega
      have hk0 : (k == 0) = false := beq_eq_false_iff_ne.2 k0
      cases hd : dayB (b + k)
      · go_wp2_with fail
        refine (rday_c _ _).mono ?_; rintro e w' ⟨rfl, rfl⟩
        go_wp2_with fail
        go_roundw
        case rel => exact ⟨k + 1, rfl, by omega, by omega, hBw, s1, c0, c1, c2, c3, c4, c5, c6, c7⟩
        case measure => simp [intOf]; omega
      · have hq : Rul.isB 0 2 29 kk off 0 fr to (b + k) = false := hN.out (b + k) (by omega) (by omega) (by omega) hd
        go_wp2_with fail
        refine (rday_c _ _).mono ?_; rintro e w' ⟨rfl, rfl⟩
        go_wp2_with fail
        refine (ruleIs_c _ _ _ _ _ _ _ _ _ hp0.out _ (hL.below (by assumption))).mono ?_; rintro e w4 ⟨rfl, hb4⟩
        have hz4 := hb4.size
        obtain ⟨hc4, hf4⟩ := bcell hb4
        have hB4 := below_step (w := w) hb4 (by assumption)
        have d0 := (hc4 _ 0 s1).trans c0
        have d1 := (hc4 _ 1 s1).trans c1
        have d2 := (hc4 _ 2 s1).trans c2
        have d3 := (hc4 _ 3 s1).trans c3
        have d4 := (hc4 _ 4 s1).trans c4
        have d5 := (hc4 _ 5 s1).trans c5
        have d6 := (hc4 _ 6 s1).trans c6
        have d7 := (hc4 _ 7 s1).trans c7
        have t1 : w3.heap.size < w4.heap.size := by omega
        clear hc4 hf4 c0 c1 c2 c3 c4 c5 c6 c7
        go_wp2_with fail
        go_roundw
        case rel => exact ⟨k + 1, rfl, by omega, by omega, hB4, t1, d0, d1, d2, d3, d4, d5, d6, d7⟩
        case measure => simp [intOf]; omega
    · have hq := hY.out
      go_wp2_with fail
      refine (ruleIs_c _ _ _ _ _ _ _ _ _ hp0.out _ (hL.below (by assumption))).mono ?_; rintro e w4 ⟨rfl, hb4⟩
      have hB4 := below_step (w := w) hb4 (by assumption)
      go_wp2_with fail
      go_ret
      exact ⟨rfl, hB4⟩
set_option maxHeartbeats 8000000 in
theorem many_b0 (kd mo da kk off sh fr to i : Int) (y b : Int) (hm : Rul.may 1 mo da 5 off sh fr to = true) (hp : Hid (Rul.mayP 1 mo da 5 off sh fr to)) (i1 : 0 ≤ i) (i2 : i ≤ 65535) (f1 : 1 ≤ fr) (f2 : fr ≤ to) (f3 : to ≤ 9999) (y1 : 1 ≤ y) (y2 : y ≤ 9999) (hy : fr + i % (to - fr + 1) = y) (hb : Rul.ba 1 mo da 5 off fr to y = b) (pb : Rul.pos b = false)  (w : World) (hL : Laid w) : Calls Tryd.prog 6 #[.agg #[.int .i64 1, .int .i64 mo, .int .i64 da, .int .i64 5, .int .i64 off, .int .i64 sh, .int .i64 fr, .int .i64 to], .int .u16 i] w fun e w' => e = .returned (.bool true) ∧ Below w.heap.size w w' := by
  have hB : Below w.heap.size w w := Below.refl _ _
  go_enter Tryd.func6, Tryd.ntmps6
  go_wp2_with fail
  refine (shown12_c _ (hL.below (by repeat (first | assumption | exact Below.refl _ _ | (with_reducible refine Below.drew ?_) | (with_reducible refine below_drewN' ?_ _) | (with_reducible refine below_al ?_) | ((with_reducible refine below_set ?_ ?_); rotate_left; focus (first | (simp; done) | (simp; omega))))))).mono ?_; rintro e w1 ⟨rfl, hb1⟩
  have hz1 := hb1.size; (try simp at hz1); obtain ⟨hc1, hf1⟩ := bcell hb1; have hB1 := below_step (w := w) hb1 (by repeat (first | assumption | exact Below.refl _ _ | (with_reducible refine Below.drew ?_) | (with_reducible refine below_drewN' ?_ _) | (with_reducible refine below_al ?_) | ((with_reducible refine below_set ?_ ?_); rotate_left; focus (first | (simp; done) | (simp; omega)))))
  have le_w_w1 : w.heap.size ≤ w1.heap.size := by omega
  try have lt_w_w1 : w.heap.size < w1.heap.size := by omega
  go_wp2_with fail
  refine (rruleMay_c _ _ _ _ _ _ _ _ _).mono ?_; rintro e w2 ⟨rfl, hb2⟩
  have hz2 := hb2.size; (try simp at hz2); obtain ⟨hc2, hf2⟩ := bcell hb2; have hB2 := below_step (w := w) hb2 (by repeat (first | assumption | exact Below.refl _ _ | (with_reducible refine Below.drew ?_) | (with_reducible refine below_drewN' ?_ _) | (with_reducible refine below_al ?_) | ((with_reducible refine below_set ?_ ?_); rotate_left; focus (first | (simp; done) | (simp; omega)))))
  have le_w_w2 : w.heap.size ≤ w2.heap.size := by omega
  try have lt_w_w2 : w.heap.size < w2.heap.size := by omega
  have le_w1_w2 : w1.heap.size ≤ w2.heap.size := by omega
  try have lt_w1_w2 : w1.heap.size < w2.heap.size := by omega
  go_wp2_with fail
  go_quiet (fail)
  have l2_w : w.heap.size < (w2.drewN nq).heap.size := by simpa using lt_w_w2
  go_wp2_with fail
  refine (ruleBase_c _ _ _ _ _ _ _ _ _ hp.out _ (hL.below (by repeat (first | assumption | exact Below.refl _ _ | (with_reducible refine Below.drew ?_) | (with_reducible refine below_drewN' ?_ _) | (with_reducible refine below_al ?_) | ((with_reducible refine below_set ?_ ?_); rotate_left; focus (first | (simp; done) | (simp; omega))))))).mono ?_; rintro e w3 ⟨rfl, hb3⟩
  have hz3 := hb3.size; (try simp at hz3); obtain ⟨hc3, hf3⟩ := bcell hb3; have hB3 := below_step (w := w) hb3 (by repeat (first | assumption | exact Below.refl _ _ | (with_reducible refine Below.drew ?_) | (with_reducible refine below_drewN' ?_ _) | (with_reducible refine below_al ?_) | ((with_reducible refine below_set ?_ ?_); rotate_left; focus (first | (simp; done) | (simp; omega)))))
  have le_w_w3 : w.heap.size ≤ w3.heap.size := by omega
  try have lt_w_w3 : w.heap.size < w3.heap.size := by omega
  have le_w1_w3 : w1.heap.size ≤ w3.heap.size := by omega
  try have lt_w1_w3 : w1.heap.size < w3.heap.size := by omega
  have le_w2_w3 : w2.heap.size ≤ w3.heap.size := by omega
  try have lt_w2_w3 : w2.heap.size < w3.heap.size := by omega
  have cw0 : w3.cell? ⟨w.heap.size, 0, none⟩ = some (.int .i64 1) := by rw [hc3 _ _ (by simpa using lt_w_w2)]; simp [*, go_sem]
  have cw1 : w3.cell? ⟨w.heap.size, 1, none⟩ = some (.int .i64 mo) := by rw [hc3 _ _ (by simpa using lt_w_w2)]; simp [*, go_sem]
  have cw2 : w3.cell? ⟨w.heap.size, 2, none⟩ = some (.int .i64 da) := by rw [hc3 _ _ (by simpa using lt_w_w2)]; simp [*, go_sem]
  have cw3 : w3.cell? ⟨w.heap.size, 3, none⟩ = some (.int .i64 5) := by rw [hc3 _ _ (by simpa using lt_w_w2)]; simp [*, go_sem]
  have cw4 : w3.cell? ⟨w.heap.size, 4, none⟩ = some (.int .i64 off) := by rw [hc3 _ _ (by simpa using lt_w_w2)]; simp [*, go_sem]
  have cw5 : w3.cell? ⟨w.heap.size, 5, none⟩ = some (.int .i64 sh) := by rw [hc3 _ _ (by simpa using lt_w_w2)]; simp [*, go_sem]
  have cw6 : w3.cell? ⟨w.heap.size, 6, none⟩ = some (.int .i64 fr) := by rw [hc3 _ _ (by simpa using lt_w_w2)]; simp [*, go_sem]
  have cw7 : w3.cell? ⟨w.heap.size, 7, none⟩ = some (.int .i64 to) := by rw [hc3 _ _ (by simpa using lt_w_w2)]; simp [*, go_sem]
  go_wp2_with fail
  go_ret
  exact ⟨rfl, by repeat (first | assumption | exact Below.refl _ _ | (with_reducible refine Below.drew ?_) | (with_reducible refine below_drewN' ?_ _) | (with_reducible refine below_al ?_) | ((with_reducible refine below_set ?_ ?_); rotate_left; focus (first | (simp; done) | (simp; omega))))⟩
set_option maxHeartbeats 8000000 in
theorem many_b1 (kd mo da kk off sh fr to i : Int) (y b : Int) (hm : Rul.may 1 mo da 5 off sh fr to = true) (hp : Hid (Rul.mayP 1 mo da 5 off sh fr to)) (i1 : 0 ≤ i) (i2 : i ≤ 65535) (f1 : 1 ≤ fr) (f2 : fr ≤ to) (f3 : to ≤ 9999) (y1 : 1 ≤ y) (y2 : y ≤ 9999) (hy : fr + i % (to - fr + 1) = y) (hb : Rul.ba 1 mo da 5 off fr to y = b) (pb : Rul.pos b = true) (b1 : 1 ≤ b) (b2 : b ≤ 3652059) (hp0 : Hid (Rul.mayP 1 mo da 5 off 0 fr to)) (hY : Hid (Rul.isB 1 mo da 5 off 0 fr to b = true)) (hN : Hid (∀ m, b - 20 ≤ m → m ≤ b + 20 → m ≠ b → dayB m = true → Rul.isB 1 mo da 5 off 0 fr to m = false))  (w : World) (hL : Laid w) : Calls Tryd.prog 6 #[.agg #[.int .i64 1, .int .i64 mo, .int .i64 da, .int .i64 5, .int .i64 off, .int .i64 sh, .int .i64 fr, .int .i64 to], .int .u16 i] w fun e w' => e = .returned (.bool true) ∧ Below w.heap.size w w' := by
  have hB : Below w.heap.size w w := Below.refl _ _
  go_enter Tryd.func6, Tryd.ntmps6
  go_wp2_with fail
  refine (shown12_c _ (hL.below (by repeat (first | assumption | exact Below.refl _ _ | (with_reducible refine Below.drew ?_) | (with_reducible refine below_drewN' ?_ _) | (with_reducible refine below_al ?_) | ((with_reducible refine below_set ?_ ?_); rotate_left; focus (first | (simp; done) | (simp; omega))))))).mono ?_; rintro e w1 ⟨rfl, hb1⟩
  have hz1 := hb1.size; (try simp at hz1); obtain ⟨hc1, hf1⟩ := bcell hb1; have hB1 := below_step (w := w) hb1 (by repeat (first | assumption | exact Below.refl _ _ | (with_reducible refine Below.drew ?_) | (with_reducible refine below_drewN' ?_ _) | (with_reducible refine below_al ?_) | ((with_reducible refine below_set ?_ ?_); rotate_left; focus (first | (simp; done) | (simp; omega)))))
  have le_w_w1 : w.heap.size ≤ w1.heap.size := by omega
  try have lt_w_w1 : w.heap.size < w1.heap.size := by omega
  go_wp2_with fail
  refine (rruleMay_c _ _ _ _ _ _ _ _ _).mono ?_; rintro e w2 ⟨rfl, hb2⟩
  have hz2 := hb2.size; (try simp at hz2); obtain ⟨hc2, hf2⟩ := bcell hb2; have hB2 := below_step (w := w) hb2 (by repeat (first | assumption | exact Below.refl _ _ | (with_reducible refine Below.drew ?_) | (with_reducible refine below_drewN' ?_ _) | (with_reducible refine below_al ?_) | ((with_reducible refine below_set ?_ ?_); rotate_left; focus (first | (simp; done) | (simp; omega)))))
  have le_w_w2 : w.heap.size ≤ w2.heap.size := by omega
  try have lt_w_w2 : w.heap.size < w2.heap.size := by omega
  have le_w1_w2 : w1.heap.size ≤ w2.heap.size := by omega
  try have lt_w1_w2 : w1.heap.size < w2.heap.size := by omega
  go_wp2_with fail
  go_quiet (fail)
  have l2_w : w.heap.size < (w2.drewN nq).heap.size := by simpa using lt_w_w2
  go_wp2_with fail
  refine (ruleBase_c _ _ _ _ _ _ _ _ _ hp.out _ (hL.below (by repeat (first | assumption | exact Below.refl _ _ | (with_reducible refine Below.drew ?_) | (with_reducible refine below_drewN' ?_ _) | (with_reducible refine below_al ?_) | ((with_reducible refine below_set ?_ ?_); rotate_left; focus (first | (simp; done) | (simp; omega))))))).mono ?_; rintro e w3 ⟨rfl, hb3⟩
  have hz3 := hb3.size; (try simp at hz3); obtain ⟨hc3, hf3⟩ := bcell hb3; have hB3 := below_step (w := w) hb3 (by repeat (first | assumption | exact Below.refl _ _ | (with_reducible refine Below.drew ?_) | (with_reducible refine below_drewN' ?_ _) | (with_reducible refine below_al ?_) | ((with_reducible refine below_set ?_ ?_); rotate_left; focus (first | (simp; done) | (simp; omega)))))
  have le_w_w3 : w.heap.size ≤ w3.heap.size := by omega
  try have lt_w_w3 : w.heap.size < w3.heap.size := by omega
  have le_w1_w3 : w1.heap.size ≤ w3.heap.size := by omega
  try have lt_w1_w3 : w1.heap.size < w3.heap.size := by omega
  have le_w2_w3 : w2.heap.size ≤ w3.heap.size := by omega
  try have lt_w2_w3 : w2.heap.size < w3.heap.size := by omega
  have cw0 : w3.cell? ⟨w.heap.size, 0, none⟩ = some (.int .i64 1) := by rw [hc3 _ _ (by simpa using lt_w_w2)]; simp [*, go_sem]
  have cw1 : w3.cell? ⟨w.heap.size, 1, none⟩ = some (.int .i64 mo) := by rw [hc3 _ _ (by simpa using lt_w_w2)]; simp [*, go_sem]
  have cw2 : w3.cell? ⟨w.heap.size, 2, none⟩ = some (.int .i64 da) := by rw [hc3 _ _ (by simpa using lt_w_w2)]; simp [*, go_sem]
  have cw3 : w3.cell? ⟨w.heap.size, 3, none⟩ = some (.int .i64 5) := by rw [hc3 _ _ (by simpa using lt_w_w2)]; simp [*, go_sem]
  have cw4 : w3.cell? ⟨w.heap.size, 4, none⟩ = some (.int .i64 off) := by rw [hc3 _ _ (by simpa using lt_w_w2)]; simp [*, go_sem]
  have cw5 : w3.cell? ⟨w.heap.size, 5, none⟩ = some (.int .i64 sh) := by rw [hc3 _ _ (by simpa using lt_w_w2)]; simp [*, go_sem]
  have cw6 : w3.cell? ⟨w.heap.size, 6, none⟩ = some (.int .i64 fr) := by rw [hc3 _ _ (by simpa using lt_w_w2)]; simp [*, go_sem]
  have cw7 : w3.cell? ⟨w.heap.size, 7, none⟩ = some (.int .i64 to) := by rw [hc3 _ _ (by simpa using lt_w_w2)]; simp [*, go_sem]
  go_wp2_with fail
  go_loopw [11] (fun a W' => ∃ k : Int, a = .int .i64 k ∧ -20 ≤ k ∧ k ≤ 21 ∧ Below w.heap.size w W' ∧ w3.heap.size < W'.heap.size ∧ W'.cell? ⟨w3.heap.size, 0, none⟩ = some (.int .i64 1) ∧ W'.cell? ⟨w3.heap.size, 1, none⟩ = some (.int .i64 mo) ∧ W'.cell? ⟨w3.heap.size, 2, none⟩ = some (.int .i64 da) ∧ W'.cell? ⟨w3.heap.size, 3, none⟩ = some (.int .i64 5) ∧ W'.cell? ⟨w3.heap.size, 4, none⟩ = some (.int .i64 off) ∧ W'.cell? ⟨w3.heap.size, 5, none⟩ = some (.int .i64 0) ∧ W'.cell? ⟨w3.heap.size, 6, none⟩ = some (.int .i64 fr) ∧ W'.cell? ⟨w3.heap.size, 7, none⟩ = some (.int .i64 to)) (fun a _ => (21 - intOf a).toNat)
  case atStart =>
    refine ⟨-20, rfl, by omega, by omega, by repeat (first | assumption | exact Below.refl _ _ | (with_reducible refine Below.drew ?_) | (with_reducible refine below_drewN' ?_ _) | (with_reducible refine below_al ?_) | ((with_reducible refine below_set ?_ ?_); rotate_left; focus (first | (simp; done) | (simp; omega)))), by simp, ?_, ?_, ?_, ?_, ?_, ?_, ?_, ?_⟩
    all_goals (simp [*, go_sem]; done)
  case round =>
    clear hz1 hc1 hf1 hb1 hB1 hz2 hc2 hf2 hb2 hB2 hz3 hc3 hf3 hb3
    obtain ⟨k, rfl, k1, k2, hBw, s1, c0, c1, c2, c3, c4, c5, c6, c7⟩ := hrel
    by_cases hk : k ≤ 20
    · by_cases k0 : k = 0
      · have hk0 : (k == 0) = true := beq_iff_eq.2 k0
        go_wp2_with fail
        go_roundw
        case rel => exact ⟨1, rfl, by omega, by omega, hBw, s1, c0, c1, c2, c3, c4, c5, c6, c7⟩
        case measure => simp [intOf]; omega
      have hk0 : (k == 0) = false := beq_eq_false_iff_ne.2 k0
      cases hd : dayB (b + k)
      · go_wp2_with fail
        refine (rday_c _ _).mono ?_; rintro e w' ⟨rfl, rfl⟩
        go_wp2_with fail
        go_roundw
        case rel => exact ⟨k + 1, rfl, by omega, by omega, hBw, s1, c0, c1, c2, c3, c4, c5, c6, c7⟩
        case measure => simp [intOf]; omega
      · have hq : Rul.isB 1 mo da 5 off 0 fr to (b + k) = false := hN.out (b + k) (by omega) (by omega) (by omega) hd
        go_wp2_with fail
        refine (rday_c _ _).mono ?_; rintro e w' ⟨rfl, rfl⟩
        go_wp2_with fail
        refine (ruleIs_c _ _ _ _ _ _ _ _ _ hp0.out _ (hL.below (by assumption))).mono ?_; rintro e w4 ⟨rfl, hb4⟩
        have hz4 := hb4.size
        obtain ⟨hc4, hf4⟩ := bcell hb4
        have hB4 := below_step (w := w) hb4 (by assumption)
        have d0 := (hc4 _ 0 s1).trans c0
        have d1 := (hc4 _ 1 s1).trans c1
        have d2 := (hc4 _ 2 s1).trans c2
        have d3 := (hc4 _ 3 s1).trans c3
        have d4 := (hc4 _ 4 s1).trans c4
        have d5 := (hc4 _ 5 s1).trans c5
        have d6 := (hc4 _ 6 s1).trans c6
        have d7 := (hc4 _ 7 s1).trans c7
        have t1 : w3.heap.size < w4.heap.size := by omega
        clear hc4 hf4 c0 c1 c2 c3 c4 c5 c6 c7
        go_wp2_with fail
        go_roundw
        case rel => exact ⟨k + 1, rfl, by omega, by omega, hB4, t1, d0, d1, d2, d3, d4, d5, d6, d7⟩
        case measure => simp [intOf]; omega
    · have hq := hY.out
      go_wp2_with fail
      refine (ruleIs_c _ _ _ _ _ _ _ _ _ hp0.out _ (hL.below (by assumption))).mono ?_; rintro e w4 ⟨rfl, hb4⟩
      have hB4 := below_step (w := w) hb4 (by assumption)
      go_wp2_with fail
      go_ret
      exact ⟨rfl, hB4⟩
set_option maxHeartbeats 8000000 in
theorem many_c0 (kd mo da kk off sh fr to i : Int) (y b : Int) (hm : Rul.may 0 mo da kk off sh fr to = true) (hp : Hid (Rul.mayP 0 mo da kk off sh fr to)) (i1 : 0 ≤ i) (i2 : i ≤ 65535) (f1 : 1 ≤ fr) (f2 : fr ≤ to) (f3 : to ≤ 9999) (y1 : 1 ≤ y) (y2 : y ≤ 9999) (hy : fr + i % (to - fr + 1) = y) (hb : Rul.ba 0 mo da kk off fr to y = b) (pb : Rul.pos b = true) (b1 : 1 ≤ b) (b2 : b ≤ 3652059) (hp0 : Hid (Rul.mayP 0 mo da kk off 0 fr to)) (hY : Hid (Rul.isB 0 mo da kk off 0 fr to b = true)) (hN : Hid (∀ m, b - 20 ≤ m → m ≤ b + 20 → m ≠ b → dayB m = true → Rul.isB 0 mo da kk off 0 fr to m = false)) (m2 : (mo == 2) = false) (w : World) (hL : Laid w) : Calls Tryd.prog 6 #[.agg #[.int .i64 0, .int .i64 mo, .int .i64 da, .int .i64 kk, .int .i64 off, .int .i64 sh, .int .i64 fr, .int .i64 to], .int .u16 i] w fun e w' => e = .returned (.bool true) ∧ Below w.heap.size w w' := by
  have hB : Below w.heap.size w w := Below.refl _ _
  go_enter Tryd.func6, Tryd.ntmps6
  go_wp2_with fail
  refine (shown12_c _ (hL.below (by repeat (first | assumption | exact Below.refl _ _ | (with_reducible refine Below.drew ?_) | (with_reducible refine below_drewN' ?_ _) | (with_reducible refine below_al ?_) | ((with_reducible refine below_set ?_ ?_); rotate_left; focus (first | (simp; done) | (simp; omega))))))).mono ?_; rintro e w1 ⟨rfl, hb1⟩
  have hz1 := hb1.size; (try simp at hz1); obtain ⟨hc1, hf1⟩ := bcell hb1; have hB1 := below_step (w := w) hb1 (by repeat (first | assumption | exact Below.refl _ _ | (with_reducible refine Below.drew ?_) | (with_reducible refine below_drewN' ?_ _) | (with_reducible refine below_al ?_) | ((with_reducible refine below_set ?_ ?_); rotate_left; focus (first | (simp; done) | (simp; omega)))))
  have le_w_w1 : w.heap.size ≤ w1.heap.size := by omega
  try have lt_w_w1 : w.heap.size < w1.heap.size := by omega
  go_wp2_with fail
  refine (rruleMay_c _ _ _ _ _ _ _ _ _).mono ?_; rintro e w2 ⟨rfl, hb2⟩
  have hz2 := hb2.size; (try simp at hz2); obtain ⟨hc2, hf2⟩ := bcell hb2; have hB2 := below_step (w := w) hb2 (by repeat (first | assumption | exact Below.refl _ _ | (with_reducible refine Below.drew ?_) | (with_reducible refine below_drewN' ?_ _) | (with_reducible refine below_al ?_) | ((with_reducible refine below_set ?_ ?_); rotate_left; focus (first | (simp; done) | (simp; omega)))))
  have le_w_w2 : w.heap.size ≤ w2.heap.size := by omega
  try have lt_w_w2 : w.heap.size < w2.heap.size := by omega
  have le_w1_w2 : w1.heap.size ≤ w2.heap.size := by omega
  try have lt_w1_w2 : w1.heap.size < w2.heap.size := by omega
  go_wp2_with fail
  go_quiet (fail)
  have l2_w : w.heap.size < (w2.drewN nq).heap.size := by simpa using lt_w_w2
  go_wp2_with fail
  refine (ruleBase_c _ _ _ _ _ _ _ _ _ hp.out _ (hL.below (by repeat (first | assumption | exact Below.refl _ _ | (with_reducible refine Below.drew ?_) | (with_reducible refine below_drewN' ?_ _) | (with_reducible refine below_al ?_) | ((with_reducible refine below_set ?_ ?_); rotate_left; focus (first | (simp; done) | (simp; omega))))))).mono ?_; rintro e w3 ⟨rfl, hb3⟩
  have hz3 := hb3.size; (try simp at hz3); obtain ⟨hc3, hf3⟩ := bcell hb3; have hB3 := below_step (w := w) hb3 (by repeat (first | assumption | exact Below.refl _ _ | (with_reducible refine Below.drew ?_) | (with_reducible refine below_drewN' ?_ _) | (with_reducible refine below_al ?_) | ((with_reducible refine below_set ?_ ?_); rotate_left; focus (first | (simp; done) | (simp; omega)))))
  have le_w_w3 : w.heap.size ≤ w3.heap.size := by omega
  try have lt_w_w3 : w.heap.size < w3.heap.size := by omega
  have le_w1_w3 : w1.heap.size ≤ w3.heap.size := by omega
  try have lt_w1_w3 : w1.heap.size < w3.heap.size := by omega
  have le_w2_w3 : w2.heap.size ≤ w3.heap.size := by omega
  try have lt_w2_w3 : w2.heap.size < w3.heap.size := by omega
  have cw0 : w3.cell? ⟨w.heap.size, 0, none⟩ = some (.int .i64 0) := by rw [hc3 _ _ (by simpa using lt_w_w2)]; simp [*, go_sem]
  have cw1 : w3.cell? ⟨w.heap.size, 1, none⟩ = some (.int .i64 mo) := by rw [hc3 _ _ (by simpa using lt_w_w2)]; simp [*, go_sem]
  have cw2 : w3.cell? ⟨w.heap.size, 2, none⟩ = some (.int .i64 da) := by rw [hc3 _ _ (by simpa using lt_w_w2)]; simp [*, go_sem]
  have cw3 : w3.cell? ⟨w.heap.size, 3, none⟩ = some (.int .i64 kk) := by rw [hc3 _ _ (by simpa using lt_w_w2)]; simp [*, go_sem]
  have cw4 : w3.cell? ⟨w.heap.size, 4, none⟩ = some (.int .i64 off) := by rw [hc3 _ _ (by simpa using lt_w_w2)]; simp [*, go_sem]
  have cw5 : w3.cell? ⟨w.heap.size, 5, none⟩ = some (.int .i64 sh) := by rw [hc3 _ _ (by simpa using lt_w_w2)]; simp [*, go_sem]
  have cw6 : w3.cell? ⟨w.heap.size, 6, none⟩ = some (.int .i64 fr) := by rw [hc3 _ _ (by simpa using lt_w_w2)]; simp [*, go_sem]
  have cw7 : w3.cell? ⟨w.heap.size, 7, none⟩ = some (.int .i64 to) := by rw [hc3 _ _ (by simpa using lt_w_w2)]; simp [*, go_sem]
  go_wp2_with fail
  go_loopw [11] (fun a W' => ∃ k : Int, a = .int .i64 k ∧ -20 ≤ k ∧ k ≤ 21 ∧ Below w.heap.size w W' ∧ w3.heap.size < W'.heap.size ∧ W'.cell? ⟨w3.heap.size, 0, none⟩ = some (.int .i64 0) ∧ W'.cell? ⟨w3.heap.size, 1, none⟩ = some (.int .i64 mo) ∧ W'.cell? ⟨w3.heap.size, 2, none⟩ = some (.int .i64 da) ∧ W'.cell? ⟨w3.heap.size, 3, none⟩ = some (.int .i64 kk) ∧ W'.cell? ⟨w3.heap.size, 4, none⟩ = some (.int .i64 off) ∧ W'.cell? ⟨w3.heap.size, 5, none⟩ = some (.int .i64 0) ∧ W'.cell? ⟨w3.heap.size, 6, none⟩ = some (.int .i64 fr) ∧ W'.cell? ⟨w3.heap.size, 7, none⟩ = some (.int .i64 to)) (fun a _ => (21 - intOf a).toNat)
  case atStart =>
    refine ⟨-20, rfl, by omega, by omega, by repeat (first | assumption | exact Below.refl _ _ | (with_reducible refine Below.drew ?_) | (with_reducible refine below_drewN' ?_ _) | (with_reducible refine below_al ?_) | ((with_reducible refine below_set ?_ ?_); rotate_left; focus (first | (simp; done) | (simp; omega)))), by simp, ?_, ?_, ?_, ?_, ?_, ?_, ?_, ?_⟩
    all_goals (simp [*, go_sem]; done)
  case round =>
    clear hz1 hc1 hf1 hb1 hB1 hz2 hc2 hf2 hb2 hB2 hz3 hc3 hf3 hb3
    obtain ⟨k, rfl, k1, k2, hBw, s1, c0, c1, c2, c3, c4, c5, c6, c7⟩ := hrel
    by_cases hk : k ≤ 20
    · by_cases k0 : k = 0
      · have hk0 : (k == 0) = true := beq_iff_eq.2 k0
        go_wp2_with fail
        go_roundw
        case rel => exact ⟨1, rfl, by omega, by omega, hBw, s1, c0, c1, c2, c3, c4, c5, c6, c7⟩
        case measure => simp [intOf]; omega
      have hk0 : (k == 0) = false := beq_eq_false_iff_ne.2 k0
      cases hd : dayB (b + k)
      · go_wp2_with fail
        refine (rday_c _ _).mono ?_; rintro e w' ⟨rfl, rfl⟩
        go_wp2_with fail
        go_roundw
        case rel => exact ⟨k + 1, rfl, by omega, by omega, hBw, s1, c0, c1, c2, c3, c4, c5, c6, c7⟩
        case measure => simp [intOf]; omega
      · have hq : Rul.isB 0 mo da kk off 0 fr to (b + k) = false := hN.out (b + k) (by omega) (by omega) (by omega) hd
        go_wp2_with fail
        refine (rday_c _ _).mono ?_; rintro e w' ⟨rfl, rfl⟩
        go_wp2_with fail
        refine (ruleIs_c _ _ _ _ _ _ _ _ _ hp0.out _ (hL.below (by assumption))).mono ?_; rintro e w4 ⟨rfl, hb4⟩
        have hz4 := hb4.size
        obtain ⟨hc4, hf4⟩ := bcell hb4
        have hB4 := below_step (w := w) hb4 (by assumption)
        have d0 := (hc4 _ 0 s1).trans c0
        have d1 := (hc4 _ 1 s1).trans c1
        have d2 := (hc4 _ 2 s1).trans c2
        have d3 := (hc4 _ 3 s1).trans c3
        have d4 := (hc4 _ 4 s1).trans c4
        have d5 := (hc4 _ 5 s1).trans c5
        have d6 := (hc4 _ 6 s1).trans c6
        have d7 := (hc4 _ 7 s1).trans c7
        have t1 : w3.heap.size < w4.heap.size := by omega
        clear hc4 hf4 c0 c1 c2 c3 c4 c5 c6 c7
        go_wp2_with fail
        go_roundw
        case rel => exact ⟨k + 1, rfl, by omega, by omega, hB4, t1, d0, d1, d2, d3, d4, d5, d6, d7⟩
        case measure => simp [intOf]; omega
    · have hq := hY.out
      go_wp2_with fail
      refine (ruleIs_c _ _ _ _ _ _ _ _ _ hp0.out _ (hL.below (by assumption))).mono ?_; rintro e w4 ⟨rfl, hb4⟩
      have hB4 := below_step (w := w) hb4 (by assumption)
      go_wp2_with fail
      go_ret
      exact ⟨rfl, hB4⟩
set_option maxHeartbeats 8000000 in
theorem many_d0 (kd mo da kk off sh fr to i : Int) (y b : Int) (hm : Rul.may 0 2 da kk off sh fr to = true) (hp : Hid (Rul.mayP 0 2 da kk off sh fr to)) (i1 : 0 ≤ i) (i2 : i ≤ 65535) (f1 : 1 ≤ fr) (f2 : fr ≤ to) (f3 : to ≤ 9999) (y1 : 1 ≤ y) (y2 : y ≤ 9999) (hy : fr + i % (to - fr + 1) = y) (hb : Rul.ba 0 2 da kk off fr to y = b) (pb : Rul.pos b = true) (b1 : 1 ≤ b) (b2 : b ≤ 3652059) (hp0 : Hid (Rul.mayP 0 2 da kk off 0 fr to)) (hY : Hid (Rul.isB 0 2 da kk off 0 fr to b = true)) (hN : Hid (∀ m, b - 20 ≤ m → m ≤ b + 20 → m ≠ b → dayB m = true → Rul.isB 0 2 da kk off 0 fr to m = false)) (m2 : (da == 29) = false) (w : World) (hL : Laid w) : Calls Tryd.prog 6 #[.agg #[.int .i64 0, .int .i64 2, .int .i64 da, .int .i64 kk, .int .i64 off, .int .i64 sh, .int .i64 fr, .int .i64 to], .int .u16 i] w fun e w' => e = .returned (.bool true) ∧ Below w.heap.size w w' := by
  have hB : Below w.heap.size w w := Below.refl _ _
  go_enter Tryd.func6, Tryd.ntmps6
  go_wp2_with fail
  refine (shown12_c _ (hL.below (by repeat (first | assumption | exact Below.refl _ _ | (with_reducible refine Below.drew ?_) | (with_reducible refine below_drewN' ?_ _) | (with_reducible refine below_al ?_) | ((with_reducible refine below_set ?_ ?_); rotate_left; focus (first | (simp; done) | (simp; omega))))))).mono ?_; rintro e w1 ⟨rfl, hb1⟩
  have hz1 := hb1.size; (try simp at hz1); obtain ⟨hc1, hf1⟩ := bcell hb1; have hB1 := below_step (w := w) hb1 (by repeat (first | assumption | exact Below.refl _ _ | (with_reducible refine Below.drew ?_) | (with_reducible refine below_drewN' ?_ _) | (with_reducible refine below_al ?_) | ((with_reducible refine below_set ?_ ?_); rotate_left; focus (first | (simp; done) | (simp; omega)))))
  have le_w_w1 : w.heap.size ≤ w1.heap.size := by omega
  try have lt_w_w1 : w.heap.size < w1.heap.size := by omega
  go_wp2_with fail
  refine (rruleMay_c _ _ _ _ _ _ _ _ _).mono ?_; rintro e w2 ⟨rfl, hb2⟩
  have hz2 := hb2.size; (try simp at hz2); obtain ⟨hc2, hf2⟩ := bcell hb2; have hB2 := below_step (w := w) hb2 (by repeat (first | assumption | exact Below.refl _ _ | (with_reducible refine Below.drew ?_) | (with_reducible refine below_drewN' ?_ _) | (with_reducible refine below_al ?_) | ((with_reducible refine below_set ?_ ?_); rotate_left; focus (first | (simp; done) | (simp; omega)))))
  have le_w_w2 : w.heap.size ≤ w2.heap.size := by omega
  try have lt_w_w2 : w.heap.size < w2.heap.size := by omega
  have le_w1_w2 : w1.heap.size ≤ w2.heap.size := by omega
  try have lt_w1_w2 : w1.heap.size < w2.heap.size := by omega
  go_wp2_with fail
  go_quiet (fail)
  have l2_w : w.heap.size < (w2.drewN nq).heap.size := by simpa using lt_w_w2
  go_wp2_with fail
  refine (ruleBase_c _ _ _ _ _ _ _ _ _ hp.out _ (hL.below (by repeat (first | assumption | exact Below.refl _ _ | (with_reducible refine Below.drew ?_) | (with_reducible refine below_drewN' ?_ _) | (with_reducible refine below_al ?_) | ((with_reducible refine below_set ?_ ?_); rotate_left; focus (first | (simp; done) | (simp; omega))))))).mono ?_; rintro e w3 ⟨rfl, hb3⟩
  have hz3 := hb3.size; (try simp at hz3); obtain ⟨hc3, hf3⟩ := bcell hb3; have hB3 := below_step (w := w) hb3 (by repeat (first | assumption | exact Below.refl _ _ | (with_reducible refine Below.drew ?_) | (with_reducible refine below_drewN' ?_ _) | (with_reducible refine below_al ?_) | ((with_reducible refine below_set ?_ ?_); rotate_left; focus (first | (simp; done) | (simp; omega)))))
  have le_w_w3 : w.heap.size ≤ w3.heap.size := by omega
  try have lt_w_w3 : w.heap.size < w3.heap.size := by omega
  have le_w1_w3 : w1.heap.size ≤ w3.heap.size := by omega
  try have lt_w1_w3 : w1.heap.size < w3.heap.size := by omega
  have le_w2_w3 : w2.heap.size ≤ w3.heap.size := by omega
  try have lt_w2_w3 : w2.heap.size < w3.heap.size := by omega
  have cw0 : w3.cell? ⟨w.heap.size, 0, none⟩ = some (.int .i64 0) := by rw [hc3 _ _ (by simpa using lt_w_w2)]; simp [*, go_sem]
  have cw1 : w3.cell? ⟨w.heap.size, 1, none⟩ = some (.int .i64 2) := by rw [hc3 _ _ (by simpa using lt_w_w2)]; simp [*, go_sem]
  have cw2 : w3.cell? ⟨w.heap.size, 2, none⟩ = some (.int .i64 da) := by rw [hc3 _ _ (by simpa using lt_w_w2)]; simp [*, go_sem]
  have cw3 : w3.cell? ⟨w.heap.size, 3, none⟩ = some (.int .i64 kk) := by rw [hc3 _ _ (by simpa using lt_w_w2)]; simp [*, go_sem]
  have cw4 : w3.cell? ⟨w.heap.size, 4, none⟩ = some (.int .i64 off) := by rw [hc3 _ _ (by simpa using lt_w_w2)]; simp [*, go_sem]
  have cw5 : w3.cell? ⟨w.heap.size, 5, none⟩ = some (.int .i64 sh) := by rw [hc3 _ _ (by simpa using lt_w_w2)]; simp [*, go_sem]
  have cw6 : w3.cell? ⟨w.heap.size, 6, none⟩ = some (.int .i64 fr) := by rw [hc3 _ _ (by simpa using lt_w_w2)]; simp [*, go_sem]
  have cw7 : w3.cell? ⟨w.heap.size, 7, none⟩ = some (.int .i64 to) := by rw [hc3 _ _ (by simpa using lt_w_w2)]; simp [*, go_sem]
  go_wp2_with fail
  go_loopw [11] (fun a W' => ∃ k : Int, a = .int .i64 k ∧ -20 ≤ k ∧ k ≤ 21 ∧ Below w.heap.size w W' ∧ w3.heap.size < W'.heap.size ∧ W'.cell? ⟨w3.heap.size, 0, none⟩ = some (.int .i64 0) ∧ W'.cell? ⟨w3.heap.size, 1, none⟩ = some (.int .i64 2) ∧ W'.cell? ⟨w3.heap.size, 2, none⟩ = some (.int .i64 da) ∧ W'.cell? ⟨w3.heap.size, 3, none⟩ = some (.int .i64 kk) ∧ W'.cell? ⟨w3.heap.size, 4, none⟩ = some (.int .i64 off) ∧ W'.cell? ⟨w3.heap.size, 5, none⟩ = some (.int .i64 0) ∧ W'.cell? ⟨w3.heap.size, 6, none⟩ = some (.int .i64 fr) ∧ W'.cell? ⟨w3.heap.size, 7, none⟩ = some (.int .i64 to)) (fun a _ => (21 - intOf a).toNat)
  case atStart =>
    refine ⟨-20, rfl, by omega, by omega, by repeat (first | assumption | exact Below.refl _ _ | (with_reducible refine Below.drew ?_) | (with_reducible refine below_drewN' ?_ _) | (with_reducible refine below_al ?_) | ((with_reducible refine below_set ?_ ?_); rotate_left; focus (first | (simp; done) | (simp; omega)))), by simp, ?_, ?_, ?_, ?_, ?_, ?_, ?_, ?_⟩
    all_goals (simp [*, go_sem]; done)
  case round =>
    clear hz1 hc1 hf1 hb1 hB1 hz2 hc2 hf2 hb2 hB2 hz3 hc3 hf3 hb3
    obtain ⟨k, rfl, k1, k2, hBw, s1, c0, c1, c2, c3, c4, c5, c6, c7⟩ := hrel
    by_cases hk : k ≤ 20
    · by_cases k0 : k = 0
      · have hk0 : (k == 0) = true := beq_iff_eq.2 k0
        go_wp2_with fail
        go_roundw
        case rel => exact ⟨1, rfl, by omega, by omega, hBw, s1, c0, c1, c2, c3, c4, c5, c6, c7⟩
        case measure => simp [intOf]; omega
      have hk0 : (k == 0) = false := beq_eq_false_iff_ne.2 k0
      cases hd : dayB (b + k)
      · go_wp2_with fail
        refine (rday_c _ _).mono ?_; rintro e w' ⟨rfl, rfl⟩
        go_wp2_with fail
        go_roundw
        case rel => exact ⟨k + 1, rfl, by omega, by omega, hBw, s1, c0, c1, c2, c3, c4, c5, c6, c7⟩
        case measure => simp [intOf]; omega
      · have hq : Rul.isB 0 2 da kk off 0 fr to (b + k) = false := hN.out (b + k) (by omega) (by omega) (by omega) hd
        go_wp2_with fail
        refine (rday_c _ _).mono ?_; rintro e w' ⟨rfl, rfl⟩
        go_wp2_with fail
        refine (ruleIs_c _ _ _ _ _ _ _ _ _ hp0.out _ (hL.below (by assumption))).mono ?_; rintro e w4 ⟨rfl, hb4⟩
        have hz4 := hb4.size
        obtain ⟨hc4, hf4⟩ := bcell hb4
        have hB4 := below_step (w := w) hb4 (by assumption)
        have d0 := (hc4 _ 0 s1).trans c0
        have d1 := (hc4 _ 1 s1).trans c1
        have d2 := (hc4 _ 2 s1).trans c2
        have d3 := (hc4 _ 3 s1).trans c3
        have d4 := (hc4 _ 4 s1).trans c4
        have d5 := (hc4 _ 5 s1).trans c5
        have d6 := (hc4 _ 6 s1).trans c6
        have d7 := (hc4 _ 7 s1).trans c7
        have t1 : w3.heap.size < w4.heap.size := by omega
        clear hc4 hf4 c0 c1 c2 c3 c4 c5 c6 c7
        go_wp2_with fail
        go_roundw
        case rel => exact ⟨k + 1, rfl, by omega, by omega, hB4, t1, d0, d1, d2, d3, d4, d5, d6, d7⟩
        case measure => simp [intOf]; omega
    · have hq := hY.out
      go_wp2_with fail
      refine (ruleIs_c _ _ _ _ _ _ _ _ _ hp0.out _ (hL.below (by assumption))).mono ?_; rintro e w4 ⟨rfl, hb4⟩
      have hB4 := below_step (w := w) hb4 (by assumption)
      go_wp2_with fail
      go_ret
      exact ⟨rfl, hB4⟩
set_option maxHeartbeats 8000000 in
theorem many_c1 (kd mo da kk off sh fr to i : Int) (y b : Int) (hm : Rul.may 1 mo da kk off sh fr to = true) (hp : Hid (Rul.mayP 1 mo da kk off sh fr to)) (i1 : 0 ≤ i) (i2 : i ≤ 65535) (f1 : 1 ≤ fr) (f2 : fr ≤ to) (f3 : to ≤ 9999) (y1 : 1 ≤ y) (y2 : y ≤ 9999) (hy : fr + i % (to - fr + 1) = y) (hb : Rul.ba 1 mo da kk off fr to y = b) (pb : Rul.pos b = true) (b1 : 1 ≤ b) (b2 : b ≤ 3652059) (hp0 : Hid (Rul.mayP 1 mo da kk off 0 fr to)) (hY : Hid (Rul.isB 1 mo da kk off 0 fr to b = true)) (hN : Hid (∀ m, b - 20 ≤ m → m ≤ b + 20 → m ≠ b → dayB m = true → Rul.isB 1 mo da kk off 0 fr to m = false)) (m2 : (kk == 5) = false) (w : World) (hL : Laid w) : Calls Tryd.prog 6 #[.agg #[.int .i64 1, .int .i64 mo, .int .i64 da, .int .i64 kk, .int .i64 off, .int .i64 sh, .int .i64 fr, .int .i64 to], .int .u16 i] w fun e w' => e = .returned (.bool true) ∧ Below w.heap.size w w' := by
  have hB : Below w.heap.size w w := Below.refl _ _
  go_enter Tryd.func6, Tryd.ntmps6
  go_wp2_with fail
  refine (shown12_c _ (hL.below (by repeat (first | assumption | exact Below.refl _ _ | (with_reducible refine Below.drew ?_) | (with_reducible refine below_drewN' ?_ _) | (with_reducible refine below_al ?_) | ((with_reducible refine below_set ?_ ?_); rotate_left; focus (first | (simp; done) | (simp; omega))))))).mono ?_; rintro e w1 ⟨rfl, hb1⟩
  have hz1 := hb1.size; (try simp at hz1); obtain ⟨hc1, hf1⟩ := bcell hb1; have hB1 := below_step (w := w) hb1 (by repeat (first | assumption | exact Below.refl _ _ | (with_reducible refine Below.drew ?_) | (with_reducible refine below_drewN' ?_ _) | (with_reducible refine below_al ?_) | ((with_reducible refine below_set ?_ ?_); rotate_left; focus (first | (simp; done) | (simp; omega)))))
  have le_w_w1 : w.heap.size ≤ w1.heap.size := by omega
  try have lt_w_w1 : w.heap.size < w1.heap.size := by omega
  go_wp2_with fail
  refine (rruleMay_c _ _ _ _ _ _ _ _ _).mono ?_; rintro e w2 ⟨rfl, hb2⟩
  have hz2 := hb2.size; (try simp at hz2); obtain ⟨hc2, hf2⟩ := bcell hb2; have hB2 := below_step (w := w) hb2 (by repeat (first | assumption | exact Below.refl _ _ | (with_reducible refine Below.drew ?_) | (with_reducible refine below_drewN' ?_ _) | (with_reducible refine below_al ?_) | ((with_reducible refine below_set ?_ ?_); rotate_left; focus (first | (simp; done) | (simp; omega)))))
  have le_w_w2 : w.heap.size ≤ w2.heap.size := by omega
  try have lt_w_w2 : w.heap.size < w2.heap.size := by omega
  have le_w1_w2 : w1.heap.size ≤ w2.heap.size := by omega
  try have lt_w1_w2 : w1.heap.size < w2.heap.size := by omega
  go_wp2_with fail
  go_quiet (fail)
  have l2_w : w.heap.size < (w2.drewN nq).heap.size := by simpa using lt_w_w2
  go_wp2_with fail
  refine (ruleBase_c _ _ _ _ _ _ _ _ _ hp.out _ (hL.below (by repeat (first | assumption | exact Below.refl _ _ | (with_reducible refine Below.drew ?_) | (with_reducible refine below_drewN' ?_ _) | (with_reducible refine below_al ?_) | ((with_reducible refine below_set ?_ ?_); rotate_left; focus (first | (simp; done) | (simp; omega))))))).mono ?_; rintro e w3 ⟨rfl, hb3⟩
  have hz3 := hb3.size; (try simp at hz3); obtain ⟨hc3, hf3⟩ := bcell hb3; have hB3 := below_step (w := w) hb3 (by repeat (first | assumption | exact Below.refl _ _ | (with_reducible refine Below.drew ?_) | (with_reducible refine below_drewN' ?_ _) | (with_reducible refine below_al ?_) | ((with_reducible refine below_set ?_ ?_); rotate_left; focus (first | (simp; done) | (simp; omega)))))
  have le_w_w3 : w.heap.size ≤ w3.heap.size := by omega
  try have lt_w_w3 : w.heap.size < w3.heap.size := by omega
  have le_w1_w3 : w1.heap.size ≤ w3.heap.size := by omega
  try have lt_w1_w3 : w1.heap.size < w3.heap.size := by omega
  have le_w2_w3 : w2.heap.size ≤ w3.heap.size := by omega
  try have lt_w2_w3 : w2.heap.size < w3.heap.size := by omega
  have cw0 : w3.cell? ⟨w.heap.size, 0, none⟩ = some (.int .i64 1) := by rw [hc3 _ _ (by simpa using lt_w_w2)]; simp [*, go_sem]
  have cw1 : w3.cell? ⟨w.heap.size, 1, none⟩ = some (.int .i64 mo) := by rw [hc3 _ _ (by simpa using lt_w_w2)]; simp [*, go_sem]
  have cw2 : w3.cell? ⟨w.heap.size, 2, none⟩ = some (.int .i64 da) := by rw [hc3 _ _ (by simpa using lt_w_w2)]; simp [*, go_sem]
  have cw3 : w3.cell? ⟨w.heap.size, 3, none⟩ = some (.int .i64 kk) := by rw [hc3 _ _ (by simpa using lt_w_w2)]; simp [*, go_sem]
  have cw4 : w3.cell? ⟨w.heap.size, 4, none⟩ = some (.int .i64 off) := by rw [hc3 _ _ (by simpa using lt_w_w2)]; simp [*, go_sem]
  have cw5 : w3.cell? ⟨w.heap.size, 5, none⟩ = some (.int .i64 sh) := by rw [hc3 _ _ (by simpa using lt_w_w2)]; simp [*, go_sem]
  have cw6 : w3.cell? ⟨w.heap.size, 6, none⟩ = some (.int .i64 fr) := by rw [hc3 _ _ (by simpa using lt_w_w2)]; simp [*, go_sem]
  have cw7 : w3.cell? ⟨w.heap.size, 7, none⟩ = some (.int .i64 to) := by rw [hc3 _ _ (by simpa using lt_w_w2)]; simp [*, go_sem]
  go_wp2_with fail
  go_loopw [11] (fun a W' => ∃ k : Int, a = .int .i64 k ∧ -20 ≤ k ∧ k ≤ 21 ∧ Below w.heap.size w W' ∧ w3.heap.size < W'.heap.size ∧ W'.cell? ⟨w3.heap.size, 0, none⟩ = some (.int .i64 1) ∧ W'.cell? ⟨w3.heap.size, 1, none⟩ = some (.int .i64 mo) ∧ W'.cell? ⟨w3.heap.size, 2, none⟩ = some (.int .i64 da) ∧ W'.cell? ⟨w3.heap.size, 3, none⟩ = some (.int .i64 kk) ∧ W'.cell? ⟨w3.heap.size, 4, none⟩ = some (.int .i64 off) ∧ W'.cell? ⟨w3.heap.size, 5, none⟩ = some (.int .i64 0) ∧ W'.cell? ⟨w3.heap.size, 6, none⟩ = some (.int .i64 fr) ∧ W'.cell? ⟨w3.heap.size, 7, none⟩ = some (.int .i64 to)) (fun a _ => (21 - intOf a).toNat)
  case atStart =>
    refine ⟨-20, rfl, by omega, by omega, by repeat (first | assumption | exact Below.refl _ _ | (with_reducible refine Below.drew ?_) | (with_reducible refine below_drewN' ?_ _) | (with_reducible refine below_al ?_) | ((with_reducible refine below_set ?_ ?_); rotate_left; focus (first | (simp; done) | (simp; omega)))), by simp, ?_, ?_, ?_, ?_, ?_, ?_, ?_, ?_⟩
    all_goals (simp [*, go_sem]; done)
  case round =>
    clear hz1 hc1 hf1 hb1 hB1 hz2 hc2 hf2 hb2 hB2 hz3 hc3 hf3 hb3
    obtain ⟨k, rfl, k1, k2, hBw, s1, c0, c1, c2, c3, c4, c5, c6, c7⟩ := hrel
    by_cases hk : k ≤ 20
    · by_cases k0 : k = 0
      · have hk0 : (k == 0) = true := beq_iff_eq.2 k0
        go_wp2_with fail
        go_roundw
        case rel => exact ⟨1, rfl, by omega, by omega, hBw, s1, c0, c1, c2, c3, c4, c5, c6, c7⟩
        case measure => simp [intOf]; omega
      have hk0 : (k == 0) = false := beq_eq_false_iff_ne.2 k0
      cases hd : dayB (b + k)
      · go_wp2_with fail
        refine (rday_c _ _).mono ?_; rintro e w' ⟨rfl, rfl⟩
        go_wp2_with fail
        go_roundw
        case rel => exact ⟨k + 1, rfl, by omega, by omega, hBw, s1, c0, c1, c2, c3, c4, c5, c6, c7⟩
        case measure => simp [intOf]; omega
      · have hq : Rul.isB 1 mo da kk off 0 fr to (b + k) = false := hN.out (b + k) (by omega) (by omega) (by omega) hd
        go_wp2_with fail
        refine (rday_c _ _).mono ?_; rintro e w' ⟨rfl, rfl⟩
        go_wp2_with fail
        refine (ruleIs_c _ _ _ _ _ _ _ _ _ hp0.out _ (hL.below (by assumption))).mono ?_; rintro e w4 ⟨rfl, hb4⟩
        have hz4 := hb4.size
        obtain ⟨hc4, hf4⟩ := bcell hb4
        have hB4 := below_step (w := w) hb4 (by assumption)
        have d0 := (hc4 _ 0 s1).trans c0
        have d1 := (hc4 _ 1 s1).trans c1
        have d2 := (hc4 _ 2 s1).trans c2
        have d3 := (hc4 _ 3 s1).trans c3
        have d4 := (hc4 _ 4 s1).trans c4
        have d5 := (hc4 _ 5 s1).trans c5
        have d6 := (hc4 _ 6 s1).trans c6
        have d7 := (hc4 _ 7 s1).trans c7
        have t1 : w3.heap.size < w4.heap.size := by omega
        clear hc4 hf4 c0 c1 c2 c3 c4 c5 c6 c7
        go_wp2_with fail
        go_roundw
        case rel => exact ⟨k + 1, rfl, by omega, by omega, hB4, t1, d0, d1, d2, d3, d4, d5, d6, d7⟩
        case measure => simp [intOf]; omega
    · have hq := hY.out
      go_wp2_with fail
      refine (ruleIs_c _ _ _ _ _ _ _ _ _ hp0.out _ (hL.below (by assumption))).mono ?_; rintro e w4 ⟨rfl, hb4⟩
      have hB4 := below_step (w := w) hb4 (by assumption)
      go_wp2_with fail
      go_ret
      exact ⟨rfl, hB4⟩
set_option maxHeartbeats 8000000 in
theorem many_c2 (kd mo da kk off sh fr to i : Int) (y b : Int) (hm : Rul.may 2 mo da kk off sh fr to = true) (hp : Hid (Rul.mayP 2 mo da kk off sh fr to)) (i1 : 0 ≤ i) (i2 : i ≤ 65535) (f1 : 1 ≤ fr) (f2 : fr ≤ to) (f3 : to ≤ 9999) (y1 : 1 ≤ y) (y2 : y ≤ 9999) (hy : fr + i % (to - fr + 1) = y) (hb : Rul.ba 2 mo da kk off fr to y = b) (pb : Rul.pos b = true) (b1 : 1 ≤ b) (b2 : b ≤ 3652059) (hp0 : Hid (Rul.mayP 2 mo da kk off 0 fr to)) (hY : Hid (Rul.isB 2 mo da kk off 0 fr to b = true)) (hN : Hid (∀ m, b - 20 ≤ m → m ≤ b + 20 → m ≠ b → dayB m = true → Rul.isB 2 mo da kk off 0 fr to m = false))  (w : World) (hL : Laid w) : Calls Tryd.prog 6 #[.agg #[.int .i64 2, .int .i64 mo, .int .i64 da, .int .i64 kk, .int .i64 off, .int .i64 sh, .int .i64 fr, .int .i64 to], .int .u16 i] w fun e w' => e = .returned (.bool true) ∧ Below w.heap.size w w' := by
  have hB : Below w.heap.size w w := Below.refl _ _
  go_enter Tryd.func6, Tryd.ntmps6
  go_wp2_with fail
  refine (shown12_c _ (hL.below (by repeat (first | assumption | exact Below.refl _ _ | (with_reducible refine Below.drew ?_) | (with_reducible refine below_drewN' ?_ _) | (with_reducible refine below_al ?_) | ((with_reducible refine below_set ?_ ?_); rotate_left; focus (first | (simp; done) | (simp; omega))))))).mono ?_; rintro e w1 ⟨rfl, hb1⟩
  have hz1 := hb1.size; (try simp at hz1); obtain ⟨hc1, hf1⟩ := bcell hb1; have hB1 := below_step (w := w) hb1 (by repeat (first | assumption | exact Below.refl _ _ | (with_reducible refine Below.drew ?_) | (with_reducible refine below_drewN' ?_ _) | (with_reducible refine below_al ?_) | ((with_reducible refine below_set ?_ ?_); rotate_left; focus (first | (simp; done) | (simp; omega)))))
  have le_w_w1 : w.heap.size ≤ w1.heap.size := by omega
  try have lt_w_w1 : w.heap.size < w1.heap.size := by omega
  go_wp2_with fail
  refine (rruleMay_c _ _ _ _ _ _ _ _ _).mono ?_; rintro e w2 ⟨rfl, hb2⟩
  have hz2 := hb2.size; (try simp at hz2); obtain ⟨hc2, hf2⟩ := bcell hb2; have hB2 := below_step (w := w) hb2 (by repeat (first | assumption | exact Below.refl _ _ | (with_reducible refine Below.drew ?_) | (with_reducible refine below_drewN' ?_ _) | (with_reducible refine below_al ?_) | ((with_reducible refine below_set ?_ ?_); rotate_left; focus (first | (simp; done) | (simp; omega)))))
  have le_w_w2 : w.heap.size ≤ w2.heap.size := by omega
  try have lt_w_w2 : w.heap.size < w2.heap.size := by omega
  have le_w1_w2 : w1.heap.size ≤ w2.heap.size := by omega
  try have lt_w1_w2 : w1.heap.size < w2.heap.size := by omega
  go_wp2_with fail
  go_quiet (fail)
  have l2_w : w.heap.size < (w2.drewN nq).heap.size := by simpa using lt_w_w2
  go_wp2_with fail
  refine (ruleBase_c _ _ _ _ _ _ _ _ _ hp.out _ (hL.below (by repeat (first | assumption | exact Below.refl _ _ | (with_reducible refine Below.drew ?_) | (with_reducible refine below_drewN' ?_ _) | (with_reducible refine below_al ?_) | ((with_reducible refine below_set ?_ ?_); rotate_left; focus (first | (simp; done) | (simp; omega))))))).mono ?_; rintro e w3 ⟨rfl, hb3⟩
  have hz3 := hb3.size; (try simp at hz3); obtain ⟨hc3, hf3⟩ := bcell hb3; have hB3 := below_step (w := w) hb3 (by repeat (first | assumption | exact Below.refl _ _ | (with_reducible refine Below.drew ?_) | (with_reducible refine below_drewN' ?_ _) | (with_reducible refine below_al ?_) | ((with_reducible refine below_set ?_ ?_); rotate_left; focus (first | (simp; done) | (simp; omega)))))
  have le_w_w3 : w.heap.size ≤ w3.heap.size := by omega
  try have lt_w_w3 : w.heap.size < w3.heap.size := by omega
  have le_w1_w3 : w1.heap.size ≤ w3.heap.size := by omega
  try have lt_w1_w3 : w1.heap.size < w3.heap.size := by omega
  have le_w2_w3 : w2.heap.size ≤ w3.heap.size := by omega
  try have lt_w2_w3 : w2.heap.size < w3.heap.size := by omega
  have cw0 : w3.cell? ⟨w.heap.size, 0, none⟩ = some (.int .i64 2) := by rw [hc3 _ _ (by simpa using lt_w_w2)]; simp [*, go_sem]
  have cw1 : w3.cell? ⟨w.heap.size, 1, none⟩ = some (.int .i64 mo) := by rw [hc3 _ _ (by simpa using lt_w_w2)]; simp [*, go_sem]
  have cw2 : w3.cell? ⟨w.heap.size, 2, none⟩ = some (.int .i64 da) := by rw [hc3 _ _ (by simpa using lt_w_w2)]; simp [*, go_sem]
  have cw3 : w3.cell? ⟨w.heap.size, 3, none⟩ = some (.int .i64 kk) := by rw [hc3 _ _ (by simpa using lt_w_w2)]; simp [*, go_sem]
  have cw4 : w3.cell? ⟨w.heap.size, 4, none⟩ = some (.int .i64 off) := by rw [hc3 _ _ (by simpa using lt_w_w2)]; simp [*, go_sem]
  have cw5 : w3.cell? ⟨w.heap.size, 5, none⟩ = some (.int .i64 sh) := by rw [hc3 _ _ (by simpa using lt_w_w2)]; simp [*, go_sem]
  have cw6 : w3.cell? ⟨w.heap.size, 6, none⟩ = some (.int .i64 fr) := by rw [hc3 _ _ (by simpa using lt_w_w2)]; simp [*, go_sem]
  have cw7 : w3.cell? ⟨w.heap.size, 7, none⟩ = some (.int .i64 to) := by rw [hc3 _ _ (by simpa using lt_w_w2)]; simp [*, go_sem]
  go_wp2_with fail
  go_loopw [11] (fun a W' => ∃ k : Int, a = .int .i64 k ∧ -20 ≤ k ∧ k ≤ 21 ∧ Below w.heap.size w W' ∧ w3.heap.size < W'.heap.size ∧ W'.cell? ⟨w3.heap.size, 0, none⟩ = some (.int .i64 2) ∧ W'.cell? ⟨w3.heap.size, 1, none⟩ = some (.int .i64 mo) ∧ W'.cell? ⟨w3.heap.size, 2, none⟩ = some (.int .i64 da) ∧ W'.cell? ⟨w3.heap.size, 3, none⟩ = some (.int .i64 kk) ∧ W'.cell? ⟨w3.heap.size, 4, none⟩ = some (.int .i64 off) ∧ W'.cell? ⟨w3.heap.size, 5, none⟩ = some (.int .i64 0) ∧ W'.cell? ⟨w3.heap.size, 6, none⟩ = some (.int .i64 fr) ∧ W'.cell? ⟨w3.heap.size, 7, none⟩ = some (.int .i64 to)) (fun a _ => (21 - intOf a).toNat)
  case atStart =>
    refine ⟨-20, rfl, by omega, by omega, by repeat (first | assumption | exact Below.refl _ _ | (with_reducible refine Below.drew ?_) | (with_reducible refine below_drewN' ?_ _) | (with_reducible refine below_al ?_) | ((with_reducible refine below_set ?_ ?_); rotate_left; focus (first | (simp; done) | (simp; omega)))), by simp, ?_, ?_, ?_, ?_, ?_, ?_, ?_, ?_⟩
    all_goals (simp [*, go_sem]; done)
  case round =>
    clear hz1 hc1 hf1 hb1 hB1 hz2 hc2 hf2 hb2 hB2 hz3 hc3 hf3 hb3
    obtain ⟨k, rfl, k1, k2, hBw, s1, c0, c1, c2, c3, c4, c5, c6, c7⟩ := hrel
    by_cases hk : k ≤ 20
    · by_cases k0 : k = 0
      · have hk0 : (k == 0) = true := beq_iff_eq.2 k0
        go_wp2_with fail
        go_roundw
        case rel => exact ⟨1, rfl, by omega, by omega, hBw, s1, c0, c1, c2, c3, c4, c5, c6, c7⟩
        case measure => simp [intOf]; omega
      have hk0 : (k == 0) = false := beq_eq_false_iff_ne.2 k0
      cases hd : dayB (b + k)
      · go_wp2_with fail
        refine (rday_c _ _).mono ?_; rintro e w' ⟨rfl, rfl⟩
        go_wp2_with fail
        go_roundw
        case rel => exact ⟨k + 1, rfl, by omega, by omega, hBw, s1, c0, c1, c2, c3, c4, c5, c6, c7⟩
        case measure => simp [intOf]; omega
      · have hq : Rul.isB 2 mo da kk off 0 fr to (b + k) = false := hN.out (b + k) (by omega) (by omega) (by omega) hd
        go_wp2_with fail
        refine (rday_c _ _).mono ?_; rintro e w' ⟨rfl, rfl⟩
        go_wp2_with fail
        refine (ruleIs_c _ _ _ _ _ _ _ _ _ hp0.out _ (hL.below (by assumption))).mono ?_; rintro e w4 ⟨rfl, hb4⟩
        have hz4 := hb4.size
        obtain ⟨hc4, hf4⟩ := bcell hb4
        have hB4 := below_step (w := w) hb4 (by assumption)
        have d0 := (hc4 _ 0 s1).trans c0
        have d1 := (hc4 _ 1 s1).trans c1
        have d2 := (hc4 _ 2 s1).trans c2
        have d3 := (hc4 _ 3 s1).trans c3
        have d4 := (hc4 _ 4 s1).trans c4
        have d5 := (hc4 _ 5 s1).trans c5
        have d6 := (hc4 _ 6 s1).trans c6
        have d7 := (hc4 _ 7 s1).trans c7
        have t1 : w3.heap.size < w4.heap.size := by omega
        clear hc4 hf4 c0 c1 c2 c3 c4 c5 c6 c7
        go_wp2_with fail
        go_roundw
        case rel => exact ⟨k + 1, rfl, by omega, by omega, hB4, t1, d0, d1, d2, d3, d4, d5, d6, d7⟩
        case measure => simp [intOf]; omega
    · have hq := hY.out
      go_wp2_with fail
      refine (ruleIs_c _ _ _ _ _ _ _ _ _ hp0.out _ (hL.below (by assumption))).mono ?_; rintro e w4 ⟨rfl, hb4⟩
      have hB4 := below_step (w := w) hb4 (by assumption)
      go_wp2_with fail
      go_ret
      exact ⟨rfl, hB4⟩
theorem ruleMany_walk (kd mo da kk off sh fr to i : Int) (i1 : 0 ≤ i) (i2 : i ≤ 65535) (w : World) (hL : Laid w) : Calls Tryd.prog 6 #[.agg #[.int .i64 kd, .int .i64 mo, .int .i64 da, .int .i64 kk, .int .i64 off, .int .i64 sh, .int .i64 fr, .int .i64 to], .int .u16 i] w fun e w' => e = .returned (.bool true) ∧ Below w.heap.size w w' := by
  cases hm : Rul.may kd mo da kk off sh fr to
  · exact many_no kd mo da kk off sh fr to i hm w hL
  have hp := Rul.may_iff.1 hm
  by_cases k3 : kd = 3
  · subst k3; exact many_3 3 mo da kk off sh fr to i hm w hL
  have hp0 := Rul.mayP_plain hp
  have fs : 1 ≤ fr ∧ fr ≤ to ∧ to ≤ 9999 := by obtain ⟨_, _, a, b, c, _⟩ := hp; omega
  obtain ⟨f1, f2, f3⟩ := fs
  have q1 := Int.emod_nonneg i (show to - fr + 1 ≠ 0 by omega)
  have q2 := Int.emod_lt_of_pos i (show 0 < to - fr + 1 by omega)
  obtain ⟨y, hy⟩ : ∃ y, fr + i % (to - fr + 1) = y := ⟨_, rfl⟩
  have y1 : 1 ≤ y := by omega
  have y2 : y ≤ 9999 := by omega
  have hmu := Rul.ba_must hp k3 (y := y) (by omega) (by omega)
  have bb := Rul.ba_bd hp y
  have hP := fun h0 => Rul.plain_is hp (y := y) h0
  have hQ := fun h0 m c1 c2 c3 hd => Rul.plain_not hp k3 (y := y) (m := m) h0 c1 c2 c3 hd
  obtain ⟨b, hb⟩ : ∃ b, Rul.ba kd mo da kk off fr to y = b := ⟨_, rfl⟩
  simp only [hb] at hmu bb hP hQ
  have kc : kd = 0 ∨ kd = 1 ∨ kd = 2 := by obtain ⟨_, _, _, _, _, h⟩ := hp; omega
  have bz : Rul.pos b = false → b = 0 := fun h => by
    by_cases c : 0 < b
    · rw [Rul.pos_yes c] at h; cases h
    · omega
  have bn : Rul.pos b = true → b ≠ 0 := fun h => by have := Rul.pos_iff.1 h; omega
  have bp : Rul.pos b = true → 1 ≤ b := fun h => by have := Rul.pos_iff.1 h; omega
  cases pb : Rul.pos b
  · rw [pb] at hmu
    unfold Rul.must at hmu
    by_cases c : kd = 0 ∧ mo = 2 ∧ da = 29
    · rw [if_pos c] at hmu
      obtain ⟨rfl, rfl, rfl⟩ := c
      exact many_a0 0 2 29 kk off sh fr to i y b hm hp i1 i2 f1 f2 f3 y1 y2 hy hb pb hmu.symm w hL
    rw [if_neg c] at hmu
    by_cases c5 : kd = 1 ∧ kk = 5
    · obtain ⟨rfl, rfl⟩ := c5
      exact many_b0 1 mo da 5 off sh fr to i y b hm hp i1 i2 f1 f2 f3 y1 y2 hy hb pb w hL
    rw [if_neg c5] at hmu
    cases hmu
  · have hY := hP (bn pb)
    have hN := hQ (bn pb)
    have b1 := bp pb
    have b2 := bb.2
    by_cases c : kd = 0 ∧ mo = 2 ∧ da = 29
    · have hl : Cal.leapB y = true := by unfold Rul.must at hmu; rw [if_pos c, pb] at hmu; exact hmu.symm
      obtain ⟨rfl, rfl, rfl⟩ := c
      exact many_a1 0 2 29 kk off sh fr to i y b hm hp i1 i2 f1 f2 f3 y1 y2 hy hb pb b1 b2 hp0 hY hN hl w hL
    rcases kc with rfl | rfl | rfl
    · by_cases m2 : mo = 2
      · subst m2
        exact many_d0 0 2 da kk off sh fr to i y b hm hp i1 i2 f1 f2 f3 y1 y2 hy hb pb b1 b2 hp0 hY hN (beq_eq_false_iff_ne.2 (fun e => c ⟨rfl, rfl, e⟩)) w hL
      · exact many_c0 0 mo da kk off sh fr to i y b hm hp i1 i2 f1 f2 f3 y1 y2 hy hb pb b1 b2 hp0 hY hN (beq_eq_false_iff_ne.2 m2) w hL
    · by_cases c5 : kk = 5
      · subst c5
        exact many_b1 1 mo da 5 off sh fr to i y b hm hp i1 i2 f1 f2 f3 y1 y2 hy hb pb b1 b2 hp0 hY hN w hL
      · exact many_c1 1 mo da kk off sh fr to i y b hm hp i1 i2 f1 f2 f3 y1 y2 hy hb pb b1 b2 hp0 hY hN (beq_eq_false_iff_ne.2 c5) w hL
    · exact many_c2 2 mo da kk off sh fr to i y b hm hp i1 i2 f1 f2 f3 y1 y2 hy hb pb b1 b2 hp0 hY hN w hL
end Go.Proofs.YtjcjchapfiokeaaDoor
