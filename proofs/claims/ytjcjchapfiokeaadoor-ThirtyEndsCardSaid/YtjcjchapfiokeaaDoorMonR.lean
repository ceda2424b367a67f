/- The contracts of the document's layer of months. Conditions: none. -/
import Derived.Test.YtjcjchapfiokeaaDoorCivF
import Derived.Test.YtjcjchapfiokeaaDoorMon
namespace Go.Proofs.YtjcjchapfiokeaaDoor
open Go.RowKit
set_option linter.unusedVariables false

set_option maxHeartbeats 1000000 in
theorem rlast_true (n : Int) (h1 : 1 ≤ n) (h2 : n ≤ 3652059) (hd : (Cal.dOf n == Cal.len (Cal.yOf n) (Cal.mOf n)) = true) (w : World) : Calls Tryd.prog 67 #[.int .i64 n] w fun e w' => e = .returned (.bool true) ∧ Below w.heap.size w w' := by
  have hB : Below w.heap.size w w := Below.refl _ _
  go_enter Tryd.func67, Tryd.ntmps67
  go_wp2_with fail
  refine (rof_yes _ _ (by assumption) (by assumption)).mono ?_; rintro e w1 ⟨rfl, hb1⟩
  have hz1 := hb1.size; (try simp at hz1); obtain ⟨hc1, hf1⟩ := bcell hb1; have hB1 := below_step (w := w) hb1 (by repeat (first | assumption | exact Below.refl _ _ | (with_reducible refine Below.drew ?_) | (with_reducible refine below_drewN' ?_ _) | (with_reducible refine below_al ?_) | ((with_reducible refine below_set ?_ ?_); rotate_left; focus (first | (simp; done) | (simp; omega)))))
  have le_w_w1 : w.heap.size ≤ w1.heap.size := by omega
  try have lt_w_w1 : w.heap.size < w1.heap.size := by omega
  go_wp2_with fail
  go_quiet ((go_at_call 27; exact Calls.quiet_of_same ((rlength_c _ _ _).mono fun _ _ h => ⟨h.1, h.2.symm⟩)))
  go_wp2_with fail
  go_ret
  exact ⟨rfl, by repeat (first | assumption | exact Below.refl _ _ | (with_reducible refine Below.drew ?_) | (with_reducible refine below_drewN' ?_ _) | (with_reducible refine below_al ?_) | ((with_reducible refine below_set ?_ ?_); rotate_left; focus (first | (simp; done) | (simp; omega))))⟩
set_option maxHeartbeats 1000000 in
theorem rlast_false (n : Int) (h1 : 1 ≤ n) (h2 : n ≤ 3652059) (hd : (Cal.dOf n == Cal.len (Cal.yOf n) (Cal.mOf n)) = false) (w : World) : Calls Tryd.prog 67 #[.int .i64 n] w fun e w' => e = .returned (.bool false) ∧ Below w.heap.size w w' := by
  have hB : Below w.heap.size w w := Below.refl _ _
  go_enter Tryd.func67, Tryd.ntmps67
  go_wp2_with fail
  refine (rof_yes _ _ (by assumption) (by assumption)).mono ?_; rintro e w1 ⟨rfl, hb1⟩
  have hz1 := hb1.size; (try simp at hz1); obtain ⟨hc1, hf1⟩ := bcell hb1; have hB1 := below_step (w := w) hb1 (by repeat (first | assumption | exact Below.refl _ _ | (with_reducible refine Below.drew ?_) | (with_reducible refine below_drewN' ?_ _) | (with_reducible refine below_al ?_) | ((with_reducible refine below_set ?_ ?_); rotate_left; focus (first | (simp; done) | (simp; omega)))))
  have le_w_w1 : w.heap.size ≤ w1.heap.size := by omega
  try have lt_w_w1 : w.heap.size < w1.heap.size := by omega
  go_wp2_with fail
  go_quiet ((go_at_call 27; exact Calls.quiet_of_same ((rlength_c _ _ _).mono fun _ _ h => ⟨h.1, h.2.symm⟩)))
  go_wp2_with fail
  go_ret
  exact ⟨rfl, by repeat (first | assumption | exact Below.refl _ _ | (with_reducible refine Below.drew ?_) | (with_reducible refine below_drewN' ?_ _) | (with_reducible refine below_al ?_) | ((with_reducible refine below_set ?_ ?_); rotate_left; focus (first | (simp; done) | (simp; omega))))⟩
set_option maxHeartbeats 1000000 in
theorem rlast_out (n : Int) (h : Hid (n < 1 ∨ 3652059 < n)) (w : World) : Calls Tryd.prog 67 #[.int .i64 n] w fun e w' => e = .returned (.bool false) ∧ Below w.heap.size w w' := by
  have hB : Below w.heap.size w w := Below.refl _ _
  go_enter Tryd.func67, Tryd.ntmps67
  go_wp2_with fail
  refine (rof_no _ _ h.out).mono ?_; rintro e w1 ⟨rfl, hb1⟩
  have hz1 := hb1.size; (try simp at hz1); obtain ⟨hc1, hf1⟩ := bcell hb1; have hB1 := below_step (w := w) hb1 (by repeat (first | assumption | exact Below.refl _ _ | (with_reducible refine Below.drew ?_) | (with_reducible refine below_drewN' ?_ _) | (with_reducible refine below_al ?_) | ((with_reducible refine below_set ?_ ?_); rotate_left; focus (first | (simp; done) | (simp; omega)))))
  have le_w_w1 : w.heap.size ≤ w1.heap.size := by omega
  try have lt_w_w1 : w.heap.size < w1.heap.size := by omega
  go_wp2_with fail
  go_ret
  exact ⟨rfl, by repeat (first | assumption | exact Below.refl _ _ | (with_reducible refine Below.drew ?_) | (with_reducible refine below_drewN' ?_ _) | (with_reducible refine below_al ?_) | ((with_reducible refine below_set ?_ ?_); rotate_left; focus (first | (simp; done) | (simp; omega))))⟩
set_option maxHeartbeats 1000000 in
theorem rend_in (n : Int) (h1 : 1 ≤ n) (h2 : n ≤ 3652059) (w : World) : Calls Tryd.prog 41 #[.int .i64 n] w fun e w' => e = .returned (.tuple #[.int .i64 (Mon.endV n), .int .i64 0]) ∧ Below w.heap.size w w' := by
  have v := (Mon.end_day h1 h2).may
  have qe : Mon.endV n = Cal.num (Cal.yOf n) (Cal.mOf n) (Cal.len (Cal.yOf n) (Cal.mOf n)) := if_pos ⟨h1, h2⟩
  rw [qe]; clear qe
  have V := Lib.hid v; clear v
  have hB : Below w.heap.size w w := Below.refl _ _
  go_enter Tryd.func41, Tryd.ntmps41
  go_wp2_with fail
  refine (rof_yes _ _ (by assumption) (by assumption)).mono ?_; rintro e w1 ⟨rfl, hb1⟩
  have hz1 := hb1.size; (try simp at hz1); obtain ⟨hc1, hf1⟩ := bcell hb1; have hB1 := below_step (w := w) hb1 (by repeat (first | assumption | exact Below.refl _ _ | (with_reducible refine Below.drew ?_) | (with_reducible refine below_drewN' ?_ _) | (with_reducible refine below_al ?_) | ((with_reducible refine below_set ?_ ?_); rotate_left; focus (first | (simp; done) | (simp; omega)))))
  have le_w_w1 : w.heap.size ≤ w1.heap.size := by omega
  try have lt_w_w1 : w.heap.size < w1.heap.size := by omega
  go_wp2_with fail
  refine (rlength_c _ _ _).mono ?_; rintro e w' ⟨rfl, rfl⟩
  go_wp2_with fail
  refine (rnumber_yes _ _ _ _ V.out).mono ?_; rintro e w2 ⟨rfl, hb2⟩
  have hz2 := hb2.size; (try simp at hz2); obtain ⟨hc2, hf2⟩ := bcell hb2; have hB2 := below_step (w := w) hb2 (by repeat (first | assumption | exact Below.refl _ _ | (with_reducible refine Below.drew ?_) | (with_reducible refine below_drewN' ?_ _) | (with_reducible refine below_al ?_) | ((with_reducible refine below_set ?_ ?_); rotate_left; focus (first | (simp; done) | (simp; omega)))))
  have le_w_w2 : w.heap.size ≤ w2.heap.size := by omega
  try have lt_w_w2 : w.heap.size < w2.heap.size := by omega
  have le_w1_w2 : w1.heap.size ≤ w2.heap.size := by omega
  try have lt_w1_w2 : w1.heap.size < w2.heap.size := by omega
  go_wp2_with fail
  go_ret2
  exact ⟨rfl, by repeat (first | assumption | exact Below.refl _ _ | (with_reducible refine Below.drew ?_) | (with_reducible refine below_drewN' ?_ _) | (with_reducible refine below_al ?_) | ((with_reducible refine below_set ?_ ?_); rotate_left; focus (first | (simp; done) | (simp; omega))))⟩
set_option maxHeartbeats 1000000 in
theorem rend_out (n : Int) (h : Hid (n < 1 ∨ 3652059 < n)) (w : World) : Calls Tryd.prog 41 #[.int .i64 n] w fun e w' => e = .returned (.tuple #[.int .i64 0, .int .i64 3]) ∧ Below w.heap.size w w' := by
  have hB : Below w.heap.size w w := Below.refl _ _
  go_enter Tryd.func41, Tryd.ntmps41
  go_wp2_with fail
  refine (rof_no _ _ h.out).mono ?_; rintro e w1 ⟨rfl, hb1⟩
  have hz1 := hb1.size; (try simp at hz1); obtain ⟨hc1, hf1⟩ := bcell hb1; have hB1 := below_step (w := w) hb1 (by repeat (first | assumption | exact Below.refl _ _ | (with_reducible refine Below.drew ?_) | (with_reducible refine below_drewN' ?_ _) | (with_reducible refine below_al ?_) | ((with_reducible refine below_set ?_ ?_); rotate_left; focus (first | (simp; done) | (simp; omega)))))
  have le_w_w1 : w.heap.size ≤ w1.heap.size := by omega
  try have lt_w_w1 : w.heap.size < w1.heap.size := by omega
  go_wp2_with fail
  go_ret2
  exact ⟨rfl, by repeat (first | assumption | exact Below.refl _ _ | (with_reducible refine Below.drew ?_) | (with_reducible refine below_drewN' ?_ _) | (with_reducible refine below_al ?_) | ((with_reducible refine below_set ?_ ?_); rotate_left; focus (first | (simp; done) | (simp; omega))))⟩
theorem rlast_c (n : Int) (w : World) : Calls Tryd.prog 67 #[.int .i64 n] w fun e w' => e = .returned (.bool (Mon.lastB n)) ∧ Below w.heap.size w w' := by
  by_cases h : 1 ≤ n ∧ n ≤ 3652059
  · rw [Mon.lastB_in h.1 h.2]
    unfold Mon.isEnd
    by_cases hd : Cal.dOf n = Cal.len (Cal.yOf n) (Cal.mOf n)
    · rw [decide_eq_true hd]; exact rlast_true n h.1 h.2 (beq_iff_eq.2 hd) w
    · rw [decide_eq_false hd]; exact rlast_false n h.1 h.2 (beq_eq_false_iff_ne.2 hd) w
  · have k : n < 1 ∨ 3652059 < n := by omega
    rw [Mon.lastB_out k]; exact rlast_out n k w
theorem rend_c (n : Int) (w : World) : Calls Tryd.prog 41 #[.int .i64 n] w fun e w' => e = .returned (.tuple #[.int .i64 (Mon.endV n), .int .i64 (ofE n)]) ∧ Below w.heap.size w w' := by
  by_cases h : 1 ≤ n ∧ n ≤ 3652059
  · rw [(of_in h.1 h.2).2.2.2]; exact rend_in n h.1 h.2 w
  · have k : n < 1 ∨ 3652059 < n := by omega
    rw [(of_out k).2.2.2, Mon.endV_out k]; exact rend_out n k w
set_option maxHeartbeats 1000000 in
theorem rmove_out (n k : Int) (eom : Bool) (h : Hid (n < 1 ∨ 3652059 < n)) (w : World) : Calls Tryd.prog 42 #[.int .i64 n, .int .i64 k, .bool eom] w fun e w' => e = .returned (.tuple #[.int .i64 0, .int .i64 3]) ∧ Below w.heap.size w w' := by
  have hB : Below w.heap.size w w := Below.refl _ _
  go_enter Tryd.func42, Tryd.ntmps42
  go_wp2_with fail
  refine (rof_no _ _ h.out).mono ?_; rintro e w1 ⟨rfl, hb1⟩
  have hz1 := hb1.size; (try simp at hz1); obtain ⟨hc1, hf1⟩ := bcell hb1; have hB1 := below_step (w := w) hb1 (by repeat (first | assumption | exact Below.refl _ _ | (with_reducible refine Below.drew ?_) | (with_reducible refine below_drewN' ?_ _) | (with_reducible refine below_al ?_) | ((with_reducible refine below_set ?_ ?_); rotate_left; focus (first | (simp; done) | (simp; omega)))))
  have le_w_w1 : w.heap.size ≤ w1.heap.size := by omega
  try have lt_w_w1 : w.heap.size < w1.heap.size := by omega
  go_wp2_with fail
  go_ret2
  exact ⟨rfl, by repeat (first | assumption | exact Below.refl _ _ | (with_reducible refine Below.drew ?_) | (with_reducible refine below_drewN' ?_ _) | (with_reducible refine below_al ?_) | ((with_reducible refine below_set ?_ ?_); rotate_left; focus (first | (simp; done) | (simp; omega))))⟩
set_option maxHeartbeats 1000000 in
theorem rmove_hi (n k : Int) (eom : Bool) (h1 : 1 ≤ n) (h2 : n ≤ 3652059) (hk : 200000 < k) (w : World) : Calls Tryd.prog 42 #[.int .i64 n, .int .i64 k, .bool eom] w fun e w' => e = .returned (.tuple #[.int .i64 0, .int .i64 3]) ∧ Below w.heap.size w w' := by
  have hB : Below w.heap.size w w := Below.refl _ _
  go_enter Tryd.func42, Tryd.ntmps42
  go_wp2_with fail
  refine (rof_yes _ _ (by assumption) (by assumption)).mono ?_; rintro e w1 ⟨rfl, hb1⟩
  have hz1 := hb1.size; (try simp at hz1); obtain ⟨hc1, hf1⟩ := bcell hb1; have hB1 := below_step (w := w) hb1 (by repeat (first | assumption | exact Below.refl _ _ | (with_reducible refine Below.drew ?_) | (with_reducible refine below_drewN' ?_ _) | (with_reducible refine below_al ?_) | ((with_reducible refine below_set ?_ ?_); rotate_left; focus (first | (simp; done) | (simp; omega)))))
  have le_w_w1 : w.heap.size ≤ w1.heap.size := by omega
  try have lt_w_w1 : w.heap.size < w1.heap.size := by omega
  go_wp2_with fail
  go_ret2
  exact ⟨rfl, by repeat (first | assumption | exact Below.refl _ _ | (with_reducible refine Below.drew ?_) | (with_reducible refine below_drewN' ?_ _) | (with_reducible refine below_al ?_) | ((with_reducible refine below_set ?_ ?_); rotate_left; focus (first | (simp; done) | (simp; omega))))⟩
set_option maxHeartbeats 1000000 in
theorem rmove_lo (n k : Int) (eom : Bool) (h1 : 1 ≤ n) (h2 : n ≤ 3652059) (hk : k < -200000) (w : World) : Calls Tryd.prog 42 #[.int .i64 n, .int .i64 k, .bool eom] w fun e w' => e = .returned (.tuple #[.int .i64 0, .int .i64 3]) ∧ Below w.heap.size w w' := by
  have hk' : ¬ 200000 < k := by omega
  have hB : Below w.heap.size w w := Below.refl _ _
  go_enter Tryd.func42, Tryd.ntmps42
  go_wp2_with fail
  refine (rof_yes _ _ (by assumption) (by assumption)).mono ?_; rintro e w1 ⟨rfl, hb1⟩
  have hz1 := hb1.size; (try simp at hz1); obtain ⟨hc1, hf1⟩ := bcell hb1; have hB1 := below_step (w := w) hb1 (by repeat (first | assumption | exact Below.refl _ _ | (with_reducible refine Below.drew ?_) | (with_reducible refine below_drewN' ?_ _) | (with_reducible refine below_al ?_) | ((with_reducible refine below_set ?_ ?_); rotate_left; focus (first | (simp; done) | (simp; omega)))))
  have le_w_w1 : w.heap.size ≤ w1.heap.size := by omega
  try have lt_w_w1 : w.heap.size < w1.heap.size := by omega
  go_wp2_with fail
  go_ret2
  exact ⟨rfl, by repeat (first | assumption | exact Below.refl _ _ | (with_reducible refine Below.drew ?_) | (with_reducible refine below_drewN' ?_ _) | (with_reducible refine below_al ?_) | ((with_reducible refine below_set ?_ ?_); rotate_left; focus (first | (simp; done) | (simp; omega))))⟩
set_option maxHeartbeats 2000000 in
theorem rmove_lt (n k M : Int) (eom : Bool) (h1 : 1 ≤ n) (h2 : n ≤ 3652059) (k1 : -200000 ≤ k) (k2 : k ≤ 200000) (HM : Hid (12 * Cal.yOf n + Cal.mOf n - 1 + k = M)) (HL : Hid (Mon.lastB n = Mon.lastB n)) (g : M < 12) (w : World) : Calls Tryd.prog 42 #[.int .i64 n, .int .i64 k, .bool eom] w fun e w' => e = .returned (.tuple #[.int .i64 0, .int .i64 3]) ∧ Below w.heap.size w w' := by
  have A := Cal.day_of n h1 h2
  have y1 := A.y1; have y2 := A.y2; have m1 := A.m1; have m2 := A.m2
  have mm1 : -400000 ≤ M := by have := HM.out; omega
  have mm2 : M ≤ 400000 := by have := HM.out; omega
  clear A
  have hB : Below w.heap.size w w := Below.refl _ _
  go_enter Tryd.func42, Tryd.ntmps42
  go_wp2_with fail
  refine (rof_yes _ _ (by assumption) (by assumption)).mono ?_; rintro e w1 ⟨rfl, hb1⟩
  have hz1 := hb1.size; (try simp at hz1); obtain ⟨hc1, hf1⟩ := bcell hb1; have hB1 := below_step (w := w) hb1 (by repeat (first | assumption | exact Below.refl _ _ | (with_reducible refine Below.drew ?_) | (with_reducible refine below_drewN' ?_ _) | (with_reducible refine below_al ?_) | ((with_reducible refine below_set ?_ ?_); rotate_left; focus (first | (simp; done) | (simp; omega)))))
  have le_w_w1 : w.heap.size ≤ w1.heap.size := by omega
  try have lt_w_w1 : w.heap.size < w1.heap.size := by omega
  go_wp2_with fail
  refine (rlast_c _ _).mono ?_; rintro e w2 ⟨rfl, hb2⟩
  have hz2 := hb2.size; (try simp at hz2); obtain ⟨hc2, hf2⟩ := bcell hb2; have hB2 := below_step (w := w) hb2 (by repeat (first | assumption | exact Below.refl _ _ | (with_reducible refine Below.drew ?_) | (with_reducible refine below_drewN' ?_ _) | (with_reducible refine below_al ?_) | ((with_reducible refine below_set ?_ ?_); rotate_left; focus (first | (simp; done) | (simp; omega)))))
  have le_w_w2 : w.heap.size ≤ w2.heap.size := by omega
  try have lt_w_w2 : w.heap.size < w2.heap.size := by omega
  have le_w1_w2 : w1.heap.size ≤ w2.heap.size := by omega
  try have lt_w1_w2 : w1.heap.size < w2.heap.size := by omega
  go_wp2_with fail
  go_loop [1, 11, 12] (fun a b c => ∃ x y z : Int, a = .int .i64 x ∧ b = .int .i64 y ∧ c = .int .i64 z ∧ -200000 ≤ x ∧ x ≤ 200000 ∧ 1 ≤ z ∧ z ≤ 12 ∧ Hid (12 * y + z - 1 + x = M)) (fun a _ _ => (intOf a).toNat)
  case atStart => exact ⟨_, _, _, rfl, rfl, rfl, k1, k2, m1, m2, HM⟩
  case round =>
    obtain ⟨x, y, z, rfl, rfl, rfl, x1, x2, z1, z2, HX⟩ := hrel
    have yb1 : -100000 ≤ y := by have := HX.out; omega
    have yb2 : y ≤ 100000 := by have := HX.out; omega
    by_cases hx : 0 < x
    · by_cases hz : 12 < z + 1
      · go_wp2
        go_round
        case rel => exact ⟨x - 1, y + 1, 1, rfl, rfl, rfl, by omega, by omega, by omega, by omega, show _ = _ by have := HX.out; omega⟩
        case measure => simp [intOf]; omega
      · go_wp2
        go_round
        case rel => exact ⟨x - 1, y, z + 1, rfl, rfl, rfl, by omega, by omega, by omega, by omega, show _ = _ by have := HX.out; omega⟩
        case measure => simp [intOf]; omega
    · go_wp2
      go_loop [1, 11, 12] (fun a b c => ∃ x y z : Int, a = .int .i64 x ∧ b = .int .i64 y ∧ c = .int .i64 z ∧ -200000 ≤ x ∧ x ≤ 0 ∧ 1 ≤ z ∧ z ≤ 12 ∧ Hid (12 * y + z - 1 + x = M)) (fun a _ _ => (- intOf a).toNat)
      case atStart => exact ⟨_, _, _, rfl, rfl, rfl, x1, by omega, z1, z2, HX⟩
      case round =>
        clear HX hx yb1 yb2 x1 x2 z1 z2
        obtain ⟨x', y', z', rfl, rfl, rfl, x1, x2, z1, z2, HX⟩ := hrel
        have yb1 : -100000 ≤ y' := by have := HX.out; omega
        have yb2 : y' ≤ 100000 := by have := HX.out; omega
        by_cases hx : x' < 0
        · by_cases hz : z' - 1 < 1
          · have hz' : ¬ 1 < z' := by omega
            go_wp2
            go_round
            case rel => exact ⟨x' + 1, y' - 1, 12, rfl, rfl, rfl, by omega, by omega, by omega, by omega, show _ = _ by have := HX.out; omega⟩
            case measure => simp [intOf]; omega
          · have hz' : 1 < z' := by omega
            go_wp2
            go_round
            case rel => exact ⟨x' + 1, y', z' - 1, rfl, rfl, rfl, by omega, by omega, by omega, by omega, show _ = _ by have := HX.out; omega⟩
            case measure => simp [intOf]; omega
        · have e1 : y' = M / 12 := by have := HX.out; omega
          have e2 : z' = M % 12 + 1 := by have := HX.out; omega
          clear HX
          subst e1 e2
          have g' : M / 12 < 1 := by omega
          go_wp2
          go_ret2
          exact ⟨rfl, by repeat (first | assumption | exact Below.refl _ _ | (with_reducible refine Below.drew ?_) | (with_reducible refine below_drewN' ?_ _) | (with_reducible refine below_al ?_) | ((with_reducible refine below_set ?_ ?_); rotate_left; focus (first | (simp; done) | (simp; omega))))⟩
set_option maxHeartbeats 2000000 in
theorem rmove_gt (n k M : Int) (eom : Bool) (h1 : 1 ≤ n) (h2 : n ≤ 3652059) (k1 : -200000 ≤ k) (k2 : k ≤ 200000) (HM : Hid (12 * Cal.yOf n + Cal.mOf n - 1 + k = M)) (HL : Hid (Mon.lastB n = Mon.lastB n)) (g : 119999 < M) (w : World) : Calls Tryd.prog 42 #[.int .i64 n, .int .i64 k, .bool eom] w fun e w' => e = .returned (.tuple #[.int .i64 0, .int .i64 3]) ∧ Below w.heap.size w w' := by
  have A := Cal.day_of n h1 h2
  have y1 := A.y1; have y2 := A.y2; have m1 := A.m1; have m2 := A.m2
  have mm1 : -400000 ≤ M := by have := HM.out; omega
  have mm2 : M ≤ 400000 := by have := HM.out; omega
  clear A
  have hB : Below w.heap.size w w := Below.refl _ _
  go_enter Tryd.func42, Tryd.ntmps42
  go_wp2_with fail
  refine (rof_yes _ _ (by assumption) (by assumption)).mono ?_; rintro e w1 ⟨rfl, hb1⟩
  have hz1 := hb1.size; (try simp at hz1); obtain ⟨hc1, hf1⟩ := bcell hb1; have hB1 := below_step (w := w) hb1 (by repeat (first | assumption | exact Below.refl _ _ | (with_reducible refine Below.drew ?_) | (with_reducible refine below_drewN' ?_ _) | (with_reducible refine below_al ?_) | ((with_reducible refine below_set ?_ ?_); rotate_left; focus (first | (simp; done) | (simp; omega)))))
  have le_w_w1 : w.heap.size ≤ w1.heap.size := by omega
  try have lt_w_w1 : w.heap.size < w1.heap.size := by omega
  go_wp2_with fail
  refine (rlast_c _ _).mono ?_; rintro e w2 ⟨rfl, hb2⟩
  have hz2 := hb2.size; (try simp at hz2); obtain ⟨hc2, hf2⟩ := bcell hb2; have hB2 := below_step (w := w) hb2 (by repeat (first | assumption | exact Below.refl _ _ | (with_reducible refine Below.drew ?_) | (with_reducible refine below_drewN' ?_ _) | (with_reducible refine below_al ?_) | ((with_reducible refine below_set ?_ ?_); rotate_left; focus (first | (simp; done) | (simp; omega)))))
  have le_w_w2 : w.heap.size ≤ w2.heap.size := by omega
  try have lt_w_w2 : w.heap.size < w2.heap.size := by omega
  have le_w1_w2 : w1.heap.size ≤ w2.heap.size := by omega
  try have lt_w1_w2 : w1.heap.size < w2.heap.size := by omega
  go_wp2_with fail
  go_loop [1, 11, 12] (fun a b c => ∃ x y z : Int, a = .int .i64 x ∧ b = .int .i64 y ∧ c = .int .i64 z ∧ -200000 ≤ x ∧ x ≤ 200000 ∧ 1 ≤ z ∧ z ≤ 12 ∧ Hid (12 * y + z - 1 + x = M)) (fun a _ _ => (intOf a).toNat)
  case atStart => exact ⟨_, _, _, rfl, rfl, rfl, k1, k2, m1, m2, HM⟩
  case round =>
    obtain ⟨x, y, z, rfl, rfl, rfl, x1, x2, z1, z2, HX⟩ := hrel
    have yb1 : -100000 ≤ y := by have := HX.out; omega
    have yb2 : y ≤ 100000 := by have := HX.out; omega
    by_cases hx : 0 < x
    · by_cases hz : 12 < z + 1
      · go_wp2
        go_round
        case rel => exact ⟨x - 1, y + 1, 1, rfl, rfl, rfl, by omega, by omega, by omega, by omega, show _ = _ by have := HX.out; omega⟩
        case measure => simp [intOf]; omega
      · go_wp2
        go_round
        case rel => exact ⟨x - 1, y, z + 1, rfl, rfl, rfl, by omega, by omega, by omega, by omega, show _ = _ by have := HX.out; omega⟩
        case measure => simp [intOf]; omega
    · go_wp2
      go_loop [1, 11, 12] (fun a b c => ∃ x y z : Int, a = .int .i64 x ∧ b = .int .i64 y ∧ c = .int .i64 z ∧ -200000 ≤ x ∧ x ≤ 0 ∧ 1 ≤ z ∧ z ≤ 12 ∧ Hid (12 * y + z - 1 + x = M)) (fun a _ _ => (- intOf a).toNat)
      case atStart => exact ⟨_, _, _, rfl, rfl, rfl, x1, by omega, z1, z2, HX⟩
      case round =>
        clear HX hx yb1 yb2 x1 x2 z1 z2
        obtain ⟨x', y', z', rfl, rfl, rfl, x1, x2, z1, z2, HX⟩ := hrel
        have yb1 : -100000 ≤ y' := by have := HX.out; omega
        have yb2 : y' ≤ 100000 := by have := HX.out; omega
        by_cases hx : x' < 0
        · by_cases hz : z' - 1 < 1
          · have hz' : ¬ 1 < z' := by omega
            go_wp2
            go_round
            case rel => exact ⟨x' + 1, y' - 1, 12, rfl, rfl, rfl, by omega, by omega, by omega, by omega, show _ = _ by have := HX.out; omega⟩
            case measure => simp [intOf]; omega
          · have hz' : 1 < z' := by omega
            go_wp2
            go_round
            case rel => exact ⟨x' + 1, y', z' - 1, rfl, rfl, rfl, by omega, by omega, by omega, by omega, show _ = _ by have := HX.out; omega⟩
            case measure => simp [intOf]; omega
        · have e1 : y' = M / 12 := by have := HX.out; omega
          have e2 : z' = M % 12 + 1 := by have := HX.out; omega
          clear HX
          subst e1 e2
          have g' : 9999 < M / 12 := by omega
          go_wp2
          go_ret2
          exact ⟨rfl, by repeat (first | assumption | exact Below.refl _ _ | (with_reducible refine Below.drew ?_) | (with_reducible refine below_drewN' ?_ _) | (with_reducible refine below_al ?_) | ((with_reducible refine below_set ?_ ?_); rotate_left; focus (first | (simp; done) | (simp; omega))))⟩
set_option maxHeartbeats 2000000 in
theorem rmove_cut (n k M : Int) (eom : Bool) (h1 : 1 ≤ n) (h2 : n ≤ 3652059) (k1 : -200000 ≤ k) (k2 : k ≤ 200000) (HM : Hid (12 * Cal.yOf n + Cal.mOf n - 1 + k = M)) (HL : Hid (Mon.lastB n = Mon.lastB n)) (g1 : 12 ≤ M) (g2 : M ≤ 119999) (v : Cal.mayB (M / 12) (M % 12 + 1) (Cal.len (M / 12) (M % 12 + 1)) = true) (hd : Cal.len (M / 12) (M % 12 + 1) < Cal.dOf n) (w : World) : Calls Tryd.prog 42 #[.int .i64 n, .int .i64 k, .bool eom] w fun e w' => e = .returned (.tuple #[.int .i64 (Cal.num (M / 12) (M % 12 + 1) (Cal.len (M / 12) (M % 12 + 1))), .int .i64 0]) ∧ Below w.heap.size w w' := by
  have A := Cal.day_of n h1 h2
  have y1 := A.y1; have y2 := A.y2; have m1 := A.m1; have m2 := A.m2
  have mm1 : -400000 ≤ M := by have := HM.out; omega
  have mm2 : M ≤ 400000 := by have := HM.out; omega
  clear A
  have hB : Below w.heap.size w w := Below.refl _ _
  go_enter Tryd.func42, Tryd.ntmps42
  go_wp2_with fail
  refine (rof_yes _ _ (by assumption) (by assumption)).mono ?_; rintro e w1 ⟨rfl, hb1⟩
  have hz1 := hb1.size; (try simp at hz1); obtain ⟨hc1, hf1⟩ := bcell hb1; have hB1 := below_step (w := w) hb1 (by repeat (first | assumption | exact Below.refl _ _ | (with_reducible refine Below.drew ?_) | (with_reducible refine below_drewN' ?_ _) | (with_reducible refine below_al ?_) | ((with_reducible refine below_set ?_ ?_); rotate_left; focus (first | (simp; done) | (simp; omega)))))
  have le_w_w1 : w.heap.size ≤ w1.heap.size := by omega
  try have lt_w_w1 : w.heap.size < w1.heap.size := by omega
  go_wp2_with fail
  refine (rlast_c _ _).mono ?_; rintro e w2 ⟨rfl, hb2⟩
  have hz2 := hb2.size; (try simp at hz2); obtain ⟨hc2, hf2⟩ := bcell hb2; have hB2 := below_step (w := w) hb2 (by repeat (first | assumption | exact Below.refl _ _ | (with_reducible refine Below.drew ?_) | (with_reducible refine below_drewN' ?_ _) | (with_reducible refine below_al ?_) | ((with_reducible refine below_set ?_ ?_); rotate_left; focus (first | (simp; done) | (simp; omega)))))
  have le_w_w2 : w.heap.size ≤ w2.heap.size := by omega
  try have lt_w_w2 : w.heap.size < w2.heap.size := by omega
  have le_w1_w2 : w1.heap.size ≤ w2.heap.size := by omega
  try have lt_w1_w2 : w1.heap.size < w2.heap.size := by omega
  go_wp2_with fail
  go_loop [1, 11, 12] (fun a b c => ∃ x y z : Int, a = .int .i64 x ∧ b = .int .i64 y ∧ c = .int .i64 z ∧ -200000 ≤ x ∧ x ≤ 200000 ∧ 1 ≤ z ∧ z ≤ 12 ∧ Hid (12 * y + z - 1 + x = M)) (fun a _ _ => (intOf a).toNat)
  case atStart => exact ⟨_, _, _, rfl, rfl, rfl, k1, k2, m1, m2, HM⟩
  case round =>
    obtain ⟨x, y, z, rfl, rfl, rfl, x1, x2, z1, z2, HX⟩ := hrel
    have yb1 : -100000 ≤ y := by have := HX.out; omega
    have yb2 : y ≤ 100000 := by have := HX.out; omega
    by_cases hx : 0 < x
    · by_cases hz : 12 < z + 1
      · go_wp2
        go_round
        case rel => exact ⟨x - 1, y + 1, 1, rfl, rfl, rfl, by omega, by omega, by omega, by omega, show _ = _ by have := HX.out; omega⟩
        case measure => simp [intOf]; omega
      · go_wp2
        go_round
        case rel => exact ⟨x - 1, y, z + 1, rfl, rfl, rfl, by omega, by omega, by omega, by omega, show _ = _ by have := HX.out; omega⟩
        case measure => simp [intOf]; omega
    · go_wp2
      go_loop [1, 11, 12] (fun a b c => ∃ x y z : Int, a = .int .i64 x ∧ b = .int .i64 y ∧ c = .int .i64 z ∧ -200000 ≤ x ∧ x ≤ 0 ∧ 1 ≤ z ∧ z ≤ 12 ∧ Hid (12 * y + z - 1 + x = M)) (fun a _ _ => (- intOf a).toNat)
      case atStart => exact ⟨_, _, _, rfl, rfl, rfl, x1, by omega, z1, z2, HX⟩
      case round =>
        clear HX hx yb1 yb2 x1 x2 z1 z2
        obtain ⟨x', y', z', rfl, rfl, rfl, x1, x2, z1, z2, HX⟩ := hrel
        have yb1 : -100000 ≤ y' := by have := HX.out; omega
        have yb2 : y' ≤ 100000 := by have := HX.out; omega
        by_cases hx : x' < 0
        · by_cases hz : z' - 1 < 1
          · have hz' : ¬ 1 < z' := by omega
            go_wp2
            go_round
            case rel => exact ⟨x' + 1, y' - 1, 12, rfl, rfl, rfl, by omega, by omega, by omega, by omega, show _ = _ by have := HX.out; omega⟩
            case measure => simp [intOf]; omega
          · have hz' : 1 < z' := by omega
            go_wp2
            go_round
            case rel => exact ⟨x' + 1, y', z' - 1, rfl, rfl, rfl, by omega, by omega, by omega, by omega, show _ = _ by have := HX.out; omega⟩
            case measure => simp [intOf]; omega
        · have e1 : y' = M / 12 := by have := HX.out; omega
          have e2 : z' = M % 12 + 1 := by have := HX.out; omega
          clear HX
          subst e1 e2
          have g3 : 1 ≤ M / 12 := by omega
          have g4 : M / 12 ≤ 9999 := by omega
          have V := Lib.hid v; clear v
          go_wp2_with fail
          refine (rlength_c _ _ _).mono ?_; rintro e w' ⟨rfl, rfl⟩
          go_wp2_with fail
          refine (rnumber_yes _ _ _ _ V.out).mono ?_; rintro e w3 ⟨rfl, hb3⟩
          have hB3 := below_step (w := w) hb3 (by repeat (first | assumption | exact Below.refl _ _ | (with_reducible refine Below.drew ?_) | (with_reducible refine below_drewN' ?_ _) | (with_reducible refine below_al ?_) | ((with_reducible refine below_set ?_ ?_); rotate_left; focus (first | (simp; done) | (simp; omega)))))
          go_wp2_with fail
          go_ret2
          exact ⟨rfl, by repeat (first | assumption | exact Below.refl _ _ | (with_reducible refine Below.drew ?_) | (with_reducible refine below_drewN' ?_ _) | (with_reducible refine below_al ?_) | ((with_reducible refine below_set ?_ ?_); rotate_left; focus (first | (simp; done) | (simp; omega))))⟩
set_option maxHeartbeats 2000000 in
theorem rmove_f (n k M : Int) (h1 : 1 ≤ n) (h2 : n ≤ 3652059) (k1 : -200000 ≤ k) (k2 : k ≤ 200000) (HM : Hid (12 * Cal.yOf n + Cal.mOf n - 1 + k = M)) (HL : Hid (Mon.lastB n = Mon.lastB n)) (g1 : 12 ≤ M) (g2 : M ≤ 119999) (v : Cal.mayB (M / 12) (M % 12 + 1) (Cal.dOf n) = true) (hd : ¬ Cal.len (M / 12) (M % 12 + 1) < Cal.dOf n) (w : World) : Calls Tryd.prog 42 #[.int .i64 n, .int .i64 k, .bool false] w fun e w' => e = .returned (.tuple #[.int .i64 (Cal.num (M / 12) (M % 12 + 1) (Cal.dOf n)), .int .i64 0]) ∧ Below w.heap.size w w' := by
  have A := Cal.day_of n h1 h2
  have y1 := A.y1; have y2 := A.y2; have m1 := A.m1; have m2 := A.m2
  have mm1 : -400000 ≤ M := by have := HM.out; omega
  have mm2 : M ≤ 400000 := by have := HM.out; omega
  clear A
  have hB : Below w.heap.size w w := Below.refl _ _
  go_enter Tryd.func42, Tryd.ntmps42
  go_wp2_with fail
  refine (rof_yes _ _ (by assumption) (by assumption)).mono ?_; rintro e w1 ⟨rfl, hb1⟩
  have hz1 := hb1.size; (try simp at hz1); obtain ⟨hc1, hf1⟩ := bcell hb1; have hB1 := below_step (w := w) hb1 (by repeat (first | assumption | exact Below.refl _ _ | (with_reducible refine Below.drew ?_) | (with_reducible refine below_drewN' ?_ _) | (with_reducible refine below_al ?_) | ((with_reducible refine below_set ?_ ?_); rotate_left; focus (first | (simp; done) | (simp; omega)))))
  have le_w_w1 : w.heap.size ≤ w1.heap.size := by omega
  try have lt_w_w1 : w.heap.size < w1.heap.size := by omega
  go_wp2_with fail
  refine (rlast_c _ _).mono ?_; rintro e w2 ⟨rfl, hb2⟩
  have hz2 := hb2.size; (try simp at hz2); obtain ⟨hc2, hf2⟩ := bcell hb2; have hB2 := below_step (w := w) hb2 (by repeat (first | assumption | exact Below.refl _ _ | (with_reducible refine Below.drew ?_) | (with_reducible refine below_drewN' ?_ _) | (with_reducible refine below_al ?_) | ((with_reducible refine below_set ?_ ?_); rotate_left; focus (first | (simp; done) | (simp; omega)))))
  have le_w_w2 : w.heap.size ≤ w2.heap.size := by omega
  try have lt_w_w2 : w.heap.size < w2.heap.size := by omega
  have le_w1_w2 : w1.heap.size ≤ w2.heap.size := by omega
  try have lt_w1_w2 : w1.heap.size < w2.heap.size := by omega
  go_wp2_with fail
  go_loop [1, 11, 12] (fun a b c => ∃ x y z : Int, a = .int .i64 x ∧ b = .int .i64 y ∧ c = .int .i64 z ∧ -200000 ≤ x ∧ x ≤ 200000 ∧ 1 ≤ z ∧ z ≤ 12 ∧ Hid (12 * y + z - 1 + x = M)) (fun a _ _ => (intOf a).toNat)
  case atStart => exact ⟨_, _, _, rfl, rfl, rfl, k1, k2, m1, m2, HM⟩
  case round =>
    obtain ⟨x, y, z, rfl, rfl, rfl, x1, x2, z1, z2, HX⟩ := hrel
    have yb1 : -100000 ≤ y := by have := HX.out; omega
    have yb2 : y ≤ 100000 := by have := HX.out; omega
    by_cases hx : 0 < x
    · by_cases hz : 12 < z + 1
      · go_wp2
        go_round
        case rel => exact ⟨x - 1, y + 1, 1, rfl, rfl, rfl, by omega, by omega, by omega, by omega, show _ = _ by have := HX.out; omega⟩
        case measure => simp [intOf]; omega
      · go_wp2
        go_round
        case rel => exact ⟨x - 1, y, z + 1, rfl, rfl, rfl, by omega, by omega, by omega, by omega, show _ = _ by have := HX.out; omega⟩
        case measure => simp [intOf]; omega
    · go_wp2
      go_loop [1, 11, 12] (fun a b c => ∃ x y z : Int, a = .int .i64 x ∧ b = .int .i64 y ∧ c = .int .i64 z ∧ -200000 ≤ x ∧ x ≤ 0 ∧ 1 ≤ z ∧ z ≤ 12 ∧ Hid (12 * y + z - 1 + x = M)) (fun a _ _ => (- intOf a).toNat)
      case atStart => exact ⟨_, _, _, rfl, rfl, rfl, x1, by omega, z1, z2, HX⟩
      case round =>
        clear HX hx yb1 yb2 x1 x2 z1 z2
        obtain ⟨x', y', z', rfl, rfl, rfl, x1, x2, z1, z2, HX⟩ := hrel
        have yb1 : -100000 ≤ y' := by have := HX.out; omega
        have yb2 : y' ≤ 100000 := by have := HX.out; omega
        by_cases hx : x' < 0
        · by_cases hz : z' - 1 < 1
          · have hz' : ¬ 1 < z' := by omega
            go_wp2
            go_round
            case rel => exact ⟨x' + 1, y' - 1, 12, rfl, rfl, rfl, by omega, by omega, by omega, by omega, show _ = _ by have := HX.out; omega⟩
            case measure => simp [intOf]; omega
          · have hz' : 1 < z' := by omega
            go_wp2
            go_round
            case rel => exact ⟨x' + 1, y', z' - 1, rfl, rfl, rfl, by omega, by omega, by omega, by omega, show _ = _ by have := HX.out; omega⟩
            case measure => simp [intOf]; omega
        · have e1 : y' = M / 12 := by have := HX.out; omega
          have e2 : z' = M % 12 + 1 := by have := HX.out; omega
          clear HX
          subst e1 e2
          have g3 : 1 ≤ M / 12 := by omega
          have g4 : M / 12 ≤ 9999 := by omega
          have V := Lib.hid v; clear v
          go_wp2_with fail
          refine (rlength_c _ _ _).mono ?_; rintro e w' ⟨rfl, rfl⟩
          go_wp2_with fail
          refine (rnumber_yes _ _ _ _ V.out).mono ?_; rintro e w3 ⟨rfl, hb3⟩
          have hB3 := below_step (w := w) hb3 (by repeat (first | assumption | exact Below.refl _ _ | (with_reducible refine Below.drew ?_) | (with_reducible refine below_drewN' ?_ _) | (with_reducible refine below_al ?_) | ((with_reducible refine below_set ?_ ?_); rotate_left; focus (first | (simp; done) | (simp; omega)))))
          go_wp2_with fail
          go_ret2
          exact ⟨rfl, by repeat (first | assumption | exact Below.refl _ _ | (with_reducible refine Below.drew ?_) | (with_reducible refine below_drewN' ?_ _) | (with_reducible refine below_al ?_) | ((with_reducible refine below_set ?_ ?_); rotate_left; focus (first | (simp; done) | (simp; omega))))⟩
set_option maxHeartbeats 2000000 in
theorem rmove_tt (n k M : Int) (h1 : 1 ≤ n) (h2 : n ≤ 3652059) (k1 : -200000 ≤ k) (k2 : k ≤ 200000) (HM : Hid (12 * Cal.yOf n + Cal.mOf n - 1 + k = M)) (HL : Hid (Mon.lastB n = true)) (g1 : 12 ≤ M) (g2 : M ≤ 119999) (v : Cal.mayB (M / 12) (M % 12 + 1) (Cal.len (M / 12) (M % 12 + 1)) = true) (hd : ¬ Cal.len (M / 12) (M % 12 + 1) < Cal.dOf n) (w : World) : Calls Tryd.prog 42 #[.int .i64 n, .int .i64 k, .bool true] w fun e w' => e = .returned (.tuple #[.int .i64 (Cal.num (M / 12) (M % 12 + 1) (Cal.len (M / 12) (M % 12 + 1))), .int .i64 0]) ∧ Below w.heap.size w w' := by
  have A := Cal.day_of n h1 h2
  have y1 := A.y1; have y2 := A.y2; have m1 := A.m1; have m2 := A.m2
  have mm1 : -400000 ≤ M := by have := HM.out; omega
  have mm2 : M ≤ 400000 := by have := HM.out; omega
  clear A
  have hB : Below w.heap.size w w := Below.refl _ _
  go_enter Tryd.func42, Tryd.ntmps42
  go_wp2_with fail
  refine (rof_yes _ _ (by assumption) (by assumption)).mono ?_; rintro e w1 ⟨rfl, hb1⟩
  have hz1 := hb1.size; (try simp at hz1); obtain ⟨hc1, hf1⟩ := bcell hb1; have hB1 := below_step (w := w) hb1 (by repeat (first | assumption | exact Below.refl _ _ | (with_reducible refine Below.drew ?_) | (with_reducible refine below_drewN' ?_ _) | (with_reducible refine below_al ?_) | ((with_reducible refine below_set ?_ ?_); rotate_left; focus (first | (simp; done) | (simp; omega)))))
  have le_w_w1 : w.heap.size ≤ w1.heap.size := by omega
  try have lt_w_w1 : w.heap.size < w1.heap.size := by omega
  go_wp2_with fail
  refine (rlast_c _ _).mono ?_; rintro e w2 ⟨rfl, hb2⟩
  have hz2 := hb2.size; (try simp at hz2); obtain ⟨hc2, hf2⟩ := bcell hb2; have hB2 := below_step (w := w) hb2 (by repeat (first | assumption | exact Below.refl _ _ | (with_reducible refine Below.drew ?_) | (with_reducible refine below_drewN' ?_ _) | (with_reducible refine below_al ?_) | ((with_reducible refine below_set ?_ ?_); rotate_left; focus (first | (simp; done) | (simp; omega)))))
  have le_w_w2 : w.heap.size ≤ w2.heap.size := by omega
  try have lt_w_w2 : w.heap.size < w2.heap.size := by omega
  have le_w1_w2 : w1.heap.size ≤ w2.heap.size := by omega
  try have lt_w1_w2 : w1.heap.size < w2.heap.size := by omega
  rw [HL.out]
  go_wp2_with fail
  go_loop [1, 11, 12] (fun a b c => ∃ x y z : Int, a = .int .i64 x ∧ b = .int .i64 y ∧ c = .int .i64 z ∧ -200000 ≤ x ∧ x ≤ 200000 ∧ 1 ≤ z ∧ z ≤ 12 ∧ Hid (12 * y + z - 1 + x = M)) (fun a _ _ => (intOf a).toNat)
  case atStart => exact ⟨_, _, _, rfl, rfl, rfl, k1, k2, m1, m2, HM⟩
  case round =>
    obtain ⟨x, y, z, rfl, rfl, rfl, x1, x2, z1, z2, HX⟩ := hrel
    have yb1 : -100000 ≤ y := by have := HX.out; omega
    have yb2 : y ≤ 100000 := by have := HX.out; omega
    by_cases hx : 0 < x
    · by_cases hz : 12 < z + 1
      · go_wp2
        go_round
        case rel => exact ⟨x - 1, y + 1, 1, rfl, rfl, rfl, by omega, by omega, by omega, by omega, show _ = _ by have := HX.out; omega⟩
        case measure => simp [intOf]; omega
      · go_wp2
        go_round
        case rel => exact ⟨x - 1, y, z + 1, rfl, rfl, rfl, by omega, by omega, by omega, by omega, show _ = _ by have := HX.out; omega⟩
        case measure => simp [intOf]; omega
    · go_wp2
      go_loop [1, 11, 12] (fun a b c => ∃ x y z : Int, a = .int .i64 x ∧ b = .int .i64 y ∧ c = .int .i64 z ∧ -200000 ≤ x ∧ x ≤ 0 ∧ 1 ≤ z ∧ z ≤ 12 ∧ Hid (12 * y + z - 1 + x = M)) (fun a _ _ => (- intOf a).toNat)
      case atStart => exact ⟨_, _, _, rfl, rfl, rfl, x1, by omega, z1, z2, HX⟩
      case round =>
        clear HX hx yb1 yb2 x1 x2 z1 z2
        obtain ⟨x', y', z', rfl, rfl, rfl, x1, x2, z1, z2, HX⟩ := hrel
        have yb1 : -100000 ≤ y' := by have := HX.out; omega
        have yb2 : y' ≤ 100000 := by have := HX.out; omega
        by_cases hx : x' < 0
        · by_cases hz : z' - 1 < 1
          · have hz' : ¬ 1 < z' := by omega
            go_wp2
            go_round
            case rel => exact ⟨x' + 1, y' - 1, 12, rfl, rfl, rfl, by omega, by omega, by omega, by omega, show _ = _ by have := HX.out; omega⟩
            case measure => simp [intOf]; omega
          · have hz' : 1 < z' := by omega
            go_wp2
            go_round
            case rel => exact ⟨x' + 1, y', z' - 1, rfl, rfl, rfl, by omega, by omega, by omega, by omega, show _ = _ by have := HX.out; omega⟩
            case measure => simp [intOf]; omega
        · have e1 : y' = M / 12 := by have := HX.out; omega
          have e2 : z' = M % 12 + 1 := by have := HX.out; omega
          clear HX
          subst e1 e2
          have g3 : 1 ≤ M / 12 := by omega
          have g4 : M / 12 ≤ 9999 := by omega
          have V := Lib.hid v; clear v
          go_wp2_with fail
          refine (rlength_c _ _ _).mono ?_; rintro e w' ⟨rfl, rfl⟩
          go_wp2_with fail
          refine (rnumber_yes _ _ _ _ V.out).mono ?_; rintro e w3 ⟨rfl, hb3⟩
          have hB3 := below_step (w := w) hb3 (by repeat (first | assumption | exact Below.refl _ _ | (with_reducible refine Below.drew ?_) | (with_reducible refine below_drewN' ?_ _) | (with_reducible refine below_al ?_) | ((with_reducible refine below_set ?_ ?_); rotate_left; focus (first | (simp; done) | (simp; omega)))))
          go_wp2_with fail
          go_ret2
          exact ⟨rfl, by repeat (first | assumption | exact Below.refl _ _ | (with_reducible refine Below.drew ?_) | (with_reducible refine below_drewN' ?_ _) | (with_reducible refine below_al ?_) | ((with_reducible refine below_set ?_ ?_); rotate_left; focus (first | (simp; done) | (simp; omega))))⟩
set_option maxHeartbeats 2000000 in
theorem rmove_tf (n k M : Int) (h1 : 1 ≤ n) (h2 : n ≤ 3652059) (k1 : -200000 ≤ k) (k2 : k ≤ 200000) (HM : Hid (12 * Cal.yOf n + Cal.mOf n - 1 + k = M)) (HL : Hid (Mon.lastB n = false)) (g1 : 12 ≤ M) (g2 : M ≤ 119999) (v : Cal.mayB (M / 12) (M % 12 + 1) (Cal.dOf n) = true) (hd : ¬ Cal.len (M / 12) (M % 12 + 1) < Cal.dOf n) (w : World) : Calls Tryd.prog 42 #[.int .i64 n, .int .i64 k, .bool true] w fun e w' => e = .returned (.tuple #[.int .i64 (Cal.num (M / 12) (M % 12 + 1) (Cal.dOf n)), .int .i64 0]) ∧ Below w.heap.size w w' := by
  have A := Cal.day_of n h1 h2
  have y1 := A.y1; have y2 := A.y2; have m1 := A.m1; have m2 := A.m2
  have mm1 : -400000 ≤ M := by have := HM.out; omega
  have mm2 : M ≤ 400000 := by have := HM.out; omega
  clear A
  have hB : Below w.heap.size w w := Below.refl _ _
  go_enter Tryd.func42, Tryd.ntmps42
  go_wp2_with fail
  refine (rof_yes _ _ (by assumption) (by assumption)).mono ?_; rintro e w1 ⟨rfl, hb1⟩
  have hz1 := hb1.size; (try simp at hz1); obtain ⟨hc1, hf1⟩ := bcell hb1; have hB1 := below_step (w := w) hb1 (by repeat (first | assumption | exact Below.refl _ _ | (with_reducible refine Below.drew ?_) | (with_reducible refine below_drewN' ?_ _) | (with_reducible refine below_al ?_) | ((with_reducible refine below_set ?_ ?_); rotate_left; focus (first | (simp; done) | (simp; omega)))))
  have le_w_w1 : w.heap.size ≤ w1.heap.size := by omega
  try have lt_w_w1 : w.heap.size < w1.heap.size := by omega
  go_wp2_with fail
  refine (rlast_c _ _).mono ?_; rintro e w2 ⟨rfl, hb2⟩
  have hz2 := hb2.size; (try simp at hz2); obtain ⟨hc2, hf2⟩ := bcell hb2; have hB2 := below_step (w := w) hb2 (by repeat (first | assumption | exact Below.refl _ _ | (with_reducible refine Below.drew ?_) | (with_reducible refine below_drewN' ?_ _) | (with_reducible refine below_al ?_) | ((with_reducible refine below_set ?_ ?_); rotate_left; focus (first | (simp; done) | (simp; omega)))))
  have le_w_w2 : w.heap.size ≤ w2.heap.size := by omega
  try have lt_w_w2 : w.heap.size < w2.heap.size := by omega
  have le_w1_w2 : w1.heap.size ≤ w2.heap.size := by omega
  try have lt_w1_w2 : w1.heap.size < w2.heap.size := by omega
  rw [HL.out]
  go_wp2_with fail
  go_loop [1, 11, 12] (fun a b c => ∃ x y z : Int, a = .int .i64 x ∧ b = .int .i64 y ∧ c = .int .i64 z ∧ -200000 ≤ x ∧ x ≤ 200000 ∧ 1 ≤ z ∧ z ≤ 12 ∧ Hid (12 * y + z - 1 + x = M)) (fun a _ _ => (intOf a).toNat)
  case atStart => exact ⟨_, _, _, rfl, rfl, rfl, k1, k2, m1, m2, HM⟩
  case round =>
    obtain ⟨x, y, z, rfl, rfl, rfl, x1, x2, z1, z2, HX⟩ := hrel
    have yb1 : -100000 ≤ y := by have := HX.out; omega
    have yb2 : y ≤ 100000 := by have := HX.out; omega
    by_cases hx : 0 < x
    · by_cases hz : 12 < z + 1
      · go_wp2
        go_round
        case rel => exact ⟨x - 1, y + 1, 1, rfl, rfl, rfl, by omega, by omega, by omega, by omega, show _ = _ by have := HX.out; omega⟩
        case measure => simp [intOf]; omega
      · go_wp2
        go_round
        case rel => exact ⟨x - 1, y, z + 1, rfl, rfl, rfl, by omega, by omega, by omega, by omega, show _ = _ by have := HX.out; omega⟩
        case measure => simp [intOf]; omega
    · go_wp2
      go_loop [1, 11, 12] (fun a b c => ∃ x y z : Int, a = .int .i64 x ∧ b = .int .i64 y ∧ c = .int .i64 z ∧ -200000 ≤ x ∧ x ≤ 0 ∧ 1 ≤ z ∧ z ≤ 12 ∧ Hid (12 * y + z - 1 + x = M)) (fun a _ _ => (- intOf a).toNat)
      case atStart => exact ⟨_, _, _, rfl, rfl, rfl, x1, by omega, z1, z2, HX⟩
      case round =>
        clear HX hx yb1 yb2 x1 x2 z1 z2
        obtain ⟨x', y', z', rfl, rfl, rfl, x1, x2, z1, z2, HX⟩ := hrel
        have yb1 : -100000 ≤ y' := by have := HX.out; omega
        have yb2 : y' ≤ 100000 := by have := HX.out; omega
        by_cases hx : x' < 0
        · by_cases hz : z' - 1 < 1
          · have hz' : ¬ 1 < z' := by omega
            go_wp2
            go_round
            case rel => exact ⟨x' + 1, y' - 1, 12, rfl, rfl, rfl, by omega, by omega, by omega, by omega, show _ = _ by have := HX.out; omega⟩
            case measure => simp [intOf]; omega
          · have hz' : 1 < z' := by omega
            go_wp2
            go_round
            case rel => exact ⟨x' + 1, y', z' - 1, rfl, rfl, rfl, by omega, by omega, by omega, by omega, show _ = _ by have := HX.out; omega⟩
            case measure => simp [intOf]; omega
        · have e1 : y' = M / 12 := by have := HX.out; omega
          have e2 : z' = M % 12 + 1 := by have := HX.out; omega
          clear HX
          subst e1 e2
          have g3 : 1 ≤ M / 12 := by omega
          have g4 : M / 12 ≤ 9999 := by omega
          have V := Lib.hid v; clear v
          go_wp2_with fail
          refine (rlength_c _ _ _).mono ?_; rintro e w' ⟨rfl, rfl⟩
          go_wp2_with fail
          refine (rnumber_yes _ _ _ _ V.out).mono ?_; rintro e w3 ⟨rfl, hb3⟩
          have hB3 := below_step (w := w) hb3 (by repeat (first | assumption | exact Below.refl _ _ | (with_reducible refine Below.drew ?_) | (with_reducible refine below_drewN' ?_ _) | (with_reducible refine below_al ?_) | ((with_reducible refine below_set ?_ ?_); rotate_left; focus (first | (simp; done) | (simp; omega)))))
          go_wp2_with fail
          go_ret2
          exact ⟨rfl, by repeat (first | assumption | exact Below.refl _ _ | (with_reducible refine Below.drew ?_) | (with_reducible refine below_drewN' ?_ _) | (with_reducible refine below_al ?_) | ((with_reducible refine below_set ?_ ?_); rotate_left; focus (first | (simp; done) | (simp; omega))))⟩
theorem rmove_c (n k : Int) (eom : Bool) (w : World) : Calls Tryd.prog 42 #[.int .i64 n, .int .i64 k, .bool eom] w fun e w' => e = .returned (.tuple #[.int .i64 (Mon.V n k eom), .int .i64 (Mon.E n k)]) ∧ Below w.heap.size w w' := by
  cases h : Mon.okB n k
  · obtain ⟨v1, v2⟩ := Mon.V_no (eom := eom) h
    rw [v1, v2]
    have hn : ¬ (1 ≤ n ∧ n ≤ 3652059 ∧ 12 ≤ Mon.M n k ∧ Mon.M n k ≤ 119999) := fun c => by rw [(Mon.ok_iff n k).2 c] at h; cases h
    by_cases c : 1 ≤ n ∧ n ≤ 3652059
    · by_cases c1 : 200000 < k
      · exact rmove_hi n k eom c.1 c.2 c1 w
      by_cases c2 : k < -200000
      · exact rmove_lo n k eom c.1 c.2 c2 w
      by_cases c3 : Mon.M n k < 12
      · exact rmove_lt n k (Mon.M n k) eom c.1 c.2 (by omega) (by omega) (show _ = _ from rfl) (show _ = _ from rfl) c3 w
      · exact rmove_gt n k (Mon.M n k) eom c.1 c.2 (by omega) (by omega) (show _ = _ from rfl) (show _ = _ from rfl) (by omega) w
    · exact rmove_out n k eom (show _ ∨ _ by omega) w
  · obtain ⟨v1, v2⟩ := Mon.V_yes (eom := eom) h
    obtain ⟨n1, n2, M1, M2⟩ := (Mon.ok_iff n k).1 h
    rw [v1, v2]
    have A := Cal.day_of n n1 n2
    have y1 := A.y1; have y2 := A.y2; have m1 := A.m1; have m2 := A.m2
    have hM : 12 * Cal.yOf n + Cal.mOf n - 1 + k = Mon.M n k := rfl
    have k1 : -200000 ≤ k := by omega
    have k2 : k ≤ 200000 := by omega
    have hv := (Mon.day (eom := eom) h).may
    by_cases hd : Cal.len (Mon.Y n k) (Mon.N n k) < Cal.dOf n
    · have hD : Mon.D n k eom = Cal.len (Mon.Y n k) (Mon.N n k) := by
        unfold Mon.D; split
        · rfl
        · exact Int.min_eq_right (by omega)
      rw [hD] at hv ⊢
      exact rmove_cut n k _ eom n1 n2 k1 k2 hM (show _ = _ from rfl) M1 M2 hv hd w
    · cases eom
      · have hD : Mon.D n k false = Cal.dOf n := by
          show min _ _ = _
          exact Int.min_eq_left (by omega)
        rw [hD] at hv ⊢
        exact rmove_f n k _ n1 n2 k1 k2 hM (show _ = _ from rfl) M1 M2 hv hd w
      · cases c : Mon.isEnd n
        · have hD : Mon.D n k true = Cal.dOf n := by
            unfold Mon.D; rw [c]
            show min _ _ = _
            exact Int.min_eq_left (by omega)
          rw [hD] at hv ⊢
          exact rmove_tf n k _ n1 n2 k1 k2 hM (show _ = _ by rw [Mon.lastB_in n1 n2]; exact c) M1 M2 hv hd w
        · have hD : Mon.D n k true = Cal.len (Mon.Y n k) (Mon.N n k) := by unfold Mon.D; rw [c]; rfl
          rw [hD] at hv ⊢
          exact rmove_tt n k _ n1 n2 k1 k2 hM (show _ = _ by rw [Mon.lastB_in n1 n2]; exact c) M1 M2 hv hd w
end Go.Proofs.YtjcjchapfiokeaaDoor
