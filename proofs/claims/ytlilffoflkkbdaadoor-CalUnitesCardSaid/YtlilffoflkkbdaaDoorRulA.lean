/- The contracts of the layer of rules, first part: which rules may be, by the program and by the document. Conditions: the table of months' lengths lies as the program's text lays it. -/
import Derived.Test.YtlilffoflkkbdaaDoorRul
import Derived.Test.YtlilffoflkkbdaaDoorEasB
namespace Go.Proofs.YtlilffoflkkbdaaDoor
open Go.RowKit
set_option linter.unusedVariables false

theorem within_c (n lo hi : Int) (w : World) : Calls Tryd.prog 73 #[.int .i64 n, .int .i64 lo, .int .i64 hi] w fun e w' => e = .returned (.bool (Rul.wi n lo hi)) ∧ w = w' := by
  by_cases h1 : lo ≤ n
  · by_cases h2 : n ≤ hi
    · rw [Rul.wi_yes h1 h2]
      go_enter Tryd.func73, Tryd.ntmps73
      go_wp2
      go_ret
      first | exact ⟨rfl, rfl⟩ | trivial
    · rw [Rul.wi_no (by omega)]
      go_enter Tryd.func73, Tryd.ntmps73
      go_wp2
      go_ret
      first | exact ⟨rfl, rfl⟩ | trivial
  · rw [Rul.wi_no (by omega)]
    go_enter Tryd.func73, Tryd.ntmps73
    go_wp2
    go_ret
    first | exact ⟨rfl, rfl⟩ | trivial
theorem rin_c (n lo hi : Int) (w : World) : Calls Tryd.prog 67 #[.int .i64 n, .int .i64 lo, .int .i64 hi] w fun e w' => e = .returned (.bool (Rul.wi n lo hi)) ∧ w = w' := by
  by_cases h1 : lo ≤ n
  · by_cases h2 : n ≤ hi
    · rw [Rul.wi_yes h1 h2]
      go_enter Tryd.func67, Tryd.ntmps67
      go_wp2
      go_ret
      first | exact ⟨rfl, rfl⟩ | trivial
    · rw [Rul.wi_no (by omega)]
      go_enter Tryd.func67, Tryd.ntmps67
      go_wp2
      go_ret
      first | exact ⟨rfl, rfl⟩ | trivial
  · rw [Rul.wi_no (by omega)]
    go_enter Tryd.func67, Tryd.ntmps67
    go_wp2
    go_ret
    first | exact ⟨rfl, rfl⟩ | trivial
set_option maxHeartbeats 1000000 in
theorem mayr_1 (kd mo da kk off sh fr to : Int) (g1 : Rul.wi sh 0 2 = false) (w : World) (hL : Laid w) : Calls Tryd.prog 55 #[.agg #[.int .i64 kd, .int .i64 mo, .int .i64 da, .int .i64 kk, .int .i64 off, .int .i64 sh, .int .i64 fr, .int .i64 to]] w fun e w' => e = .returned (.bool false) ∧ Below w.heap.size w w' := by
  go_enter Tryd.func55, Tryd.ntmps55
  go_wp2_with (first | (go_at_call 73; refine (within_c _ _ _ _).mono ?_; rintro e w' ⟨rfl, rfl⟩))
  go_ret
  exact ⟨rfl, by repeat (first | assumption | exact Below.refl _ _ | (with_reducible refine Below.drew ?_) | (with_reducible refine below_drewN' ?_ _) | (with_reducible refine below_al ?_) | ((with_reducible refine below_set ?_ ?_); rotate_left; focus (first | (simp; done) | (simp; omega))))⟩
set_option maxHeartbeats 1000000 in
theorem mayr_2 (kd mo da kk off sh fr to : Int) (g1 : Rul.wi sh 0 2 = true) (g2 : Rul.wi fr 1 to = false) (w : World) (hL : Laid w) : Calls Tryd.prog 55 #[.agg #[.int .i64 kd, .int .i64 mo, .int .i64 da, .int .i64 kk, .int .i64 off, .int .i64 sh, .int .i64 fr, .int .i64 to]] w fun e w' => e = .returned (.bool false) ∧ Below w.heap.size w w' := by
  go_enter Tryd.func55, Tryd.ntmps55
  go_wp2_with (first | (go_at_call 73; refine (within_c _ _ _ _).mono ?_; rintro e w' ⟨rfl, rfl⟩))
  go_ret
  exact ⟨rfl, by repeat (first | assumption | exact Below.refl _ _ | (with_reducible refine Below.drew ?_) | (with_reducible refine below_drewN' ?_ _) | (with_reducible refine below_al ?_) | ((with_reducible refine below_set ?_ ?_); rotate_left; focus (first | (simp; done) | (simp; omega))))⟩
set_option maxHeartbeats 1000000 in
theorem mayr_3 (kd mo da kk off sh fr to : Int) (g1 : Rul.wi sh 0 2 = true) (g2 : Rul.wi fr 1 to = true) (g3 : 9999 < to) (w : World) (hL : Laid w) : Calls Tryd.prog 55 #[.agg #[.int .i64 kd, .int .i64 mo, .int .i64 da, .int .i64 kk, .int .i64 off, .int .i64 sh, .int .i64 fr, .int .i64 to]] w fun e w' => e = .returned (.bool false) ∧ Below w.heap.size w w' := by
  go_enter Tryd.func55, Tryd.ntmps55
  go_wp2_with (first | (go_at_call 73; refine (within_c _ _ _ _).mono ?_; rintro e w' ⟨rfl, rfl⟩))
  go_ret
  exact ⟨rfl, by repeat (first | assumption | exact Below.refl _ _ | (with_reducible refine Below.drew ?_) | (with_reducible refine below_drewN' ?_ _) | (with_reducible refine below_al ?_) | ((with_reducible refine below_set ?_ ?_); rotate_left; focus (first | (simp; done) | (simp; omega))))⟩
set_option maxHeartbeats 1000000 in
theorem mayr_01 (kd mo da kk off sh fr to : Int) (g1 : Rul.wi sh 0 2 = true) (g2 : Rul.wi fr 1 to = true) (g3 : ¬ 9999 < to) (g4 : Rul.wi mo 1 12 = true) (w : World) (hL : Laid w) : Calls Tryd.prog 55 #[.agg #[.int .i64 0, .int .i64 mo, .int .i64 da, .int .i64 kk, .int .i64 off, .int .i64 sh, .int .i64 fr, .int .i64 to]] w fun e w' => e = .returned (.bool (Rul.wi da 1 (Cal.len 2000 mo))) ∧ Below w.heap.size w w' := by
  go_enter Tryd.func55, Tryd.ntmps55
  go_wp2_with (first | (go_at_call 73; refine (within_c _ _ _ _).mono ?_; rintro e w' ⟨rfl, rfl⟩) | (go_at_call 70; refine (length_c _ _ _ (hL.below (by repeat (first | assumption | exact Below.refl _ _ | (with_reducible refine Below.drew ?_) | (with_reducible refine below_drewN' ?_ _) | (with_reducible refine below_al ?_) | ((with_reducible refine below_set ?_ ?_); rotate_left; focus (first | (simp; done) | (simp; omega))))))).mono ?_; rintro e w' ⟨rfl, rfl⟩))
  go_quiet (first | (go_at_call 73; exact Calls.quiet_of_same ((within_c _ _ _ _).mono fun _ _ h => ⟨h.1, h.2.symm⟩)) | (go_at_call 70; exact Calls.quiet_of_same ((length_c _ _ _ (hL.below (by repeat (first | assumption | exact Below.refl _ _ | (with_reducible refine Below.drew ?_) | (with_reducible refine below_drewN' ?_ _) | (with_reducible refine below_al ?_) | ((with_reducible refine below_set ?_ ?_); rotate_left; focus (first | (simp; done) | (simp; omega))))))).mono fun _ _ h => ⟨h.1, h.2.symm⟩)))
  go_wp2_with (first | (go_at_call 73; refine (within_c _ _ _ _).mono ?_; rintro e w' ⟨rfl, rfl⟩) | (go_at_call 70; refine (length_c _ _ _ (hL.below (by repeat (first | assumption | exact Below.refl _ _ | (with_reducible refine Below.drew ?_) | (with_reducible refine below_drewN' ?_ _) | (with_reducible refine below_al ?_) | ((with_reducible refine below_set ?_ ?_); rotate_left; focus (first | (simp; done) | (simp; omega))))))).mono ?_; rintro e w' ⟨rfl, rfl⟩))
  go_ret
  exact ⟨rfl, by repeat (first | assumption | exact Below.refl _ _ | (with_reducible refine Below.drew ?_) | (with_reducible refine below_drewN' ?_ _) | (with_reducible refine below_al ?_) | ((with_reducible refine below_set ?_ ?_); rotate_left; focus (first | (simp; done) | (simp; omega))))⟩
set_option maxHeartbeats 1000000 in
theorem mayr_00 (kd mo da kk off sh fr to : Int) (g1 : Rul.wi sh 0 2 = true) (g2 : Rul.wi fr 1 to = true) (g3 : ¬ 9999 < to) (g4 : Rul.wi mo 1 12 = false) (w : World) (hL : Laid w) : Calls Tryd.prog 55 #[.agg #[.int .i64 0, .int .i64 mo, .int .i64 da, .int .i64 kk, .int .i64 off, .int .i64 sh, .int .i64 fr, .int .i64 to]] w fun e w' => e = .returned (.bool false) ∧ Below w.heap.size w w' := by
  go_enter Tryd.func55, Tryd.ntmps55
  go_wp2_with (first | (go_at_call 73; refine (within_c _ _ _ _).mono ?_; rintro e w' ⟨rfl, rfl⟩) | (go_at_call 70; refine (length_c _ _ _ (hL.below (by repeat (first | assumption | exact Below.refl _ _ | (with_reducible refine Below.drew ?_) | (with_reducible refine below_drewN' ?_ _) | (with_reducible refine below_al ?_) | ((with_reducible refine below_set ?_ ?_); rotate_left; focus (first | (simp; done) | (simp; omega))))))).mono ?_; rintro e w' ⟨rfl, rfl⟩))
  go_quiet (first | (go_at_call 73; exact Calls.quiet_of_same ((within_c _ _ _ _).mono fun _ _ h => ⟨h.1, h.2.symm⟩)) | (go_at_call 70; exact Calls.quiet_of_same ((length_c _ _ _ (hL.below (by repeat (first | assumption | exact Below.refl _ _ | (with_reducible refine Below.drew ?_) | (with_reducible refine below_drewN' ?_ _) | (with_reducible refine below_al ?_) | ((with_reducible refine below_set ?_ ?_); rotate_left; focus (first | (simp; done) | (simp; omega))))))).mono fun _ _ h => ⟨h.1, h.2.symm⟩)))
  go_wp2_with (first | (go_at_call 73; refine (within_c _ _ _ _).mono ?_; rintro e w' ⟨rfl, rfl⟩) | (go_at_call 70; refine (length_c _ _ _ (hL.below (by repeat (first | assumption | exact Below.refl _ _ | (with_reducible refine Below.drew ?_) | (with_reducible refine below_drewN' ?_ _) | (with_reducible refine below_al ?_) | ((with_reducible refine below_set ?_ ?_); rotate_left; focus (first | (simp; done) | (simp; omega))))))).mono ?_; rintro e w' ⟨rfl, rfl⟩))
  go_ret
  exact ⟨rfl, by repeat (first | assumption | exact Below.refl _ _ | (with_reducible refine Below.drew ?_) | (with_reducible refine below_drewN' ?_ _) | (with_reducible refine below_al ?_) | ((with_reducible refine below_set ?_ ?_); rotate_left; focus (first | (simp; done) | (simp; omega))))⟩
set_option maxHeartbeats 1000000 in
theorem mayr_10 (kd mo da kk off sh fr to : Int) (g1 : Rul.wi sh 0 2 = true) (g2 : Rul.wi fr 1 to = true) (g3 : ¬ 9999 < to) (g4 : Rul.wi kk 1 5 = false) (w : World) (hL : Laid w) : Calls Tryd.prog 55 #[.agg #[.int .i64 1, .int .i64 mo, .int .i64 da, .int .i64 kk, .int .i64 off, .int .i64 sh, .int .i64 fr, .int .i64 to]] w fun e w' => e = .returned (.bool false) ∧ Below w.heap.size w w' := by
  go_enter Tryd.func55, Tryd.ntmps55
  go_wp2_with (first | (go_at_call 73; refine (within_c _ _ _ _).mono ?_; rintro e w' ⟨rfl, rfl⟩))
  go_ret
  exact ⟨rfl, by repeat (first | assumption | exact Below.refl _ _ | (with_reducible refine Below.drew ?_) | (with_reducible refine below_drewN' ?_ _) | (with_reducible refine below_al ?_) | ((with_reducible refine below_set ?_ ?_); rotate_left; focus (first | (simp; done) | (simp; omega))))⟩
set_option maxHeartbeats 1000000 in
theorem mayr_11 (kd mo da kk off sh fr to : Int) (g1 : Rul.wi sh 0 2 = true) (g2 : Rul.wi fr 1 to = true) (g3 : ¬ 9999 < to) (g4 : Rul.wi kk 1 5 = true) (g5 : Rul.wi mo 1 12 = false) (w : World) (hL : Laid w) : Calls Tryd.prog 55 #[.agg #[.int .i64 1, .int .i64 mo, .int .i64 da, .int .i64 kk, .int .i64 off, .int .i64 sh, .int .i64 fr, .int .i64 to]] w fun e w' => e = .returned (.bool false) ∧ Below w.heap.size w w' := by
  go_enter Tryd.func55, Tryd.ntmps55
  go_wp2_with (first | (go_at_call 73; refine (within_c _ _ _ _).mono ?_; rintro e w' ⟨rfl, rfl⟩))
  go_ret
  exact ⟨rfl, by repeat (first | assumption | exact Below.refl _ _ | (with_reducible refine Below.drew ?_) | (with_reducible refine below_drewN' ?_ _) | (with_reducible refine below_al ?_) | ((with_reducible refine below_set ?_ ?_); rotate_left; focus (first | (simp; done) | (simp; omega))))⟩
set_option maxHeartbeats 1000000 in
theorem mayr_12 (kd mo da kk off sh fr to : Int) (g1 : Rul.wi sh 0 2 = true) (g2 : Rul.wi fr 1 to = true) (g3 : ¬ 9999 < to) (g4 : Rul.wi kk 1 5 = true) (g5 : Rul.wi mo 1 12 = true) (w : World) (hL : Laid w) : Calls Tryd.prog 55 #[.agg #[.int .i64 1, .int .i64 mo, .int .i64 da, .int .i64 kk, .int .i64 off, .int .i64 sh, .int .i64 fr, .int .i64 to]] w fun e w' => e = .returned (.bool (Rul.wi da 0 6)) ∧ Below w.heap.size w w' := by
  go_enter Tryd.func55, Tryd.ntmps55
  go_wp2_with (first | (go_at_call 73; refine (within_c _ _ _ _).mono ?_; rintro e w' ⟨rfl, rfl⟩))
  go_ret
  exact ⟨rfl, by repeat (first | assumption | exact Below.refl _ _ | (with_reducible refine Below.drew ?_) | (with_reducible refine below_drewN' ?_ _) | (with_reducible refine below_al ?_) | ((with_reducible refine below_set ?_ ?_); rotate_left; focus (first | (simp; done) | (simp; omega))))⟩
set_option maxHeartbeats 1000000 in
theorem mayr_21 (kd mo da kk off sh fr to : Int) (g1 : Rul.wi sh 0 2 = true) (g2 : Rul.wi fr 1 to = true) (g3 : ¬ 9999 < to) (g5 : Rul.wi mo 1 12 = false) (w : World) (hL : Laid w) : Calls Tryd.prog 55 #[.agg #[.int .i64 2, .int .i64 mo, .int .i64 da, .int .i64 kk, .int .i64 off, .int .i64 sh, .int .i64 fr, .int .i64 to]] w fun e w' => e = .returned (.bool false) ∧ Below w.heap.size w w' := by
  go_enter Tryd.func55, Tryd.ntmps55
  go_wp2_with (first | (go_at_call 73; refine (within_c _ _ _ _).mono ?_; rintro e w' ⟨rfl, rfl⟩))
  go_ret
  exact ⟨rfl, by repeat (first | assumption | exact Below.refl _ _ | (with_reducible refine Below.drew ?_) | (with_reducible refine below_drewN' ?_ _) | (with_reducible refine below_al ?_) | ((with_reducible refine below_set ?_ ?_); rotate_left; focus (first | (simp; done) | (simp; omega))))⟩
set_option maxHeartbeats 1000000 in
theorem mayr_22 (kd mo da kk off sh fr to : Int) (g1 : Rul.wi sh 0 2 = true) (g2 : Rul.wi fr 1 to = true) (g3 : ¬ 9999 < to) (g5 : Rul.wi mo 1 12 = true) (w : World) (hL : Laid w) : Calls Tryd.prog 55 #[.agg #[.int .i64 2, .int .i64 mo, .int .i64 da, .int .i64 kk, .int .i64 off, .int .i64 sh, .int .i64 fr, .int .i64 to]] w fun e w' => e = .returned (.bool (Rul.wi da 0 6)) ∧ Below w.heap.size w w' := by
  go_enter Tryd.func55, Tryd.ntmps55
  go_wp2_with (first | (go_at_call 73; refine (within_c _ _ _ _).mono ?_; rintro e w' ⟨rfl, rfl⟩))
  go_ret
  exact ⟨rfl, by repeat (first | assumption | exact Below.refl _ _ | (with_reducible refine Below.drew ?_) | (with_reducible refine below_drewN' ?_ _) | (with_reducible refine below_al ?_) | ((with_reducible refine below_set ?_ ?_); rotate_left; focus (first | (simp; done) | (simp; omega))))⟩
set_option maxHeartbeats 1000000 in
theorem mayr_30 (kd mo da kk off sh fr to : Int) (g1 : Rul.wi sh 0 2 = true) (g2 : Rul.wi fr 1 to = true) (g3 : ¬ 9999 < to)  (w : World) (hL : Laid w) : Calls Tryd.prog 55 #[.agg #[.int .i64 3, .int .i64 mo, .int .i64 da, .int .i64 kk, .int .i64 off, .int .i64 sh, .int .i64 fr, .int .i64 to]] w fun e w' => e = .returned (.bool (Rul.wi off (-100) 250)) ∧ Below w.heap.size w w' := by
  go_enter Tryd.func55, Tryd.ntmps55
  go_wp2_with (first | (go_at_call 73; refine (within_c _ _ _ _).mono ?_; rintro e w' ⟨rfl, rfl⟩))
  go_ret
  exact ⟨rfl, by repeat (first | assumption | exact Below.refl _ _ | (with_reducible refine Below.drew ?_) | (with_reducible refine below_drewN' ?_ _) | (with_reducible refine below_al ?_) | ((with_reducible refine below_set ?_ ?_); rotate_left; focus (first | (simp; done) | (simp; omega))))⟩
set_option maxHeartbeats 1000000 in
theorem mayr_40 (kd mo da kk off sh fr to : Int) (g1 : Rul.wi sh 0 2 = true) (g2 : Rul.wi fr 1 to = true) (g3 : ¬ 9999 < to) (k0 : (kd == 0) = false) (k1 : (kd == 1) = false) (k2 : (kd == 2) = false) (k3 : (kd == 3) = false) (w : World) (hL : Laid w) : Calls Tryd.prog 55 #[.agg #[.int .i64 kd, .int .i64 mo, .int .i64 da, .int .i64 kk, .int .i64 off, .int .i64 sh, .int .i64 fr, .int .i64 to]] w fun e w' => e = .returned (.bool false) ∧ Below w.heap.size w w' := by
  go_enter Tryd.func55, Tryd.ntmps55
  go_wp2_with (first | (go_at_call 73; refine (within_c _ _ _ _).mono ?_; rintro e w' ⟨rfl, rfl⟩))
  go_ret
  exact ⟨rfl, by repeat (first | assumption | exact Below.refl _ _ | (with_reducible refine Below.drew ?_) | (with_reducible refine below_drewN' ?_ _) | (with_reducible refine below_al ?_) | ((with_reducible refine below_set ?_ ?_); rotate_left; focus (first | (simp; done) | (simp; omega))))⟩
theorem ruleMay_c (kd mo da kk off sh fr to : Int) (w : World) (hL : Laid w) : Calls Tryd.prog 55 #[.agg #[.int .i64 kd, .int .i64 mo, .int .i64 da, .int .i64 kk, .int .i64 off, .int .i64 sh, .int .i64 fr, .int .i64 to]] w fun e w' => e = .returned (.bool (Rul.may kd mo da kk off sh fr to)) ∧ Below w.heap.size w w' := by
  by_cases s : 0 ≤ sh ∧ sh ≤ 2
  · by_cases f : 1 ≤ fr ∧ fr ≤ to
    · by_cases t : to ≤ 9999
      · have g1 := Rul.wi_yes s.1 s.2
        have g2 := Rul.wi_yes f.1 f.2
        have g3 : ¬ 9999 < to := by omega
        by_cases k0 : kd = 0
        · subst k0
          by_cases m : 1 ≤ mo ∧ mo ≤ 12
          · rw [show Rul.may 0 mo da kk off sh fr to = Rul.wi da 1 (Cal.len 2000 mo) by (refine Bool.eq_iff_iff.2 ?_; rw [Rul.may_iff, Rul.wi_iff]; unfold Rul.mayP; omega)]
            exact mayr_01 0 mo da kk off sh fr to g1 g2 g3 (Rul.wi_yes m.1 m.2) w hL
          · rw [show Rul.may 0 mo da kk off sh fr to = false by (refine Rul.may_no ?_; unfold Rul.mayP; omega)]
            exact mayr_00 0 mo da kk off sh fr to g1 g2 g3 (Rul.wi_no (by omega)) w hL
        by_cases k1 : kd = 1
        · subst k1
          by_cases q : 1 ≤ kk ∧ kk ≤ 5
          · by_cases m : 1 ≤ mo ∧ mo ≤ 12
            · rw [show Rul.may 1 mo da kk off sh fr to = Rul.wi da 0 6 by (refine Bool.eq_iff_iff.2 ?_; rw [Rul.may_iff, Rul.wi_iff]; unfold Rul.mayP; omega)]
              exact mayr_12 1 mo da kk off sh fr to g1 g2 g3 (Rul.wi_yes q.1 q.2) (Rul.wi_yes m.1 m.2) w hL
            · rw [show Rul.may 1 mo da kk off sh fr to = false by (refine Rul.may_no ?_; unfold Rul.mayP; omega)]
              exact mayr_11 1 mo da kk off sh fr to g1 g2 g3 (Rul.wi_yes q.1 q.2) (Rul.wi_no (by omega)) w hL
          · rw [show Rul.may 1 mo da kk off sh fr to = false by (refine Rul.may_no ?_; unfold Rul.mayP; omega)]
            exact mayr_10 1 mo da kk off sh fr to g1 g2 g3 (Rul.wi_no (by omega)) w hL
        by_cases k2 : kd = 2
        · subst k2
          by_cases m : 1 ≤ mo ∧ mo ≤ 12
          · rw [show Rul.may 2 mo da kk off sh fr to = Rul.wi da 0 6 by (refine Bool.eq_iff_iff.2 ?_; rw [Rul.may_iff, Rul.wi_iff]; unfold Rul.mayP; omega)]
            exact mayr_22 2 mo da kk off sh fr to g1 g2 g3 (Rul.wi_yes m.1 m.2) w hL
          · rw [show Rul.may 2 mo da kk off sh fr to = false by (refine Rul.may_no ?_; unfold Rul.mayP; omega)]
            exact mayr_21 2 mo da kk off sh fr to g1 g2 g3 (Rul.wi_no (by omega)) w hL
        by_cases k3 : kd = 3
        · subst k3
          rw [show Rul.may 3 mo da kk off sh fr to = Rul.wi off (-100) 250 by (refine Bool.eq_iff_iff.2 ?_; rw [Rul.may_iff, Rul.wi_iff]; unfold Rul.mayP; omega)]
          exact mayr_30 3 mo da kk off sh fr to g1 g2 g3 w hL
        rw [show Rul.may kd mo da kk off sh fr to = false by (refine Rul.may_no ?_; unfold Rul.mayP; omega)]
        exact mayr_40 kd mo da kk off sh fr to g1 g2 g3 (beq_eq_false_iff_ne.2 k0) (beq_eq_false_iff_ne.2 k1) (beq_eq_false_iff_ne.2 k2) (beq_eq_false_iff_ne.2 k3) w hL
      · rw [show Rul.may kd mo da kk off sh fr to = false by (refine Rul.may_no ?_; unfold Rul.mayP; omega)]
        exact mayr_3 kd mo da kk off sh fr to (Rul.wi_yes s.1 s.2) (Rul.wi_yes f.1 f.2) (by omega) w hL
    · rw [show Rul.may kd mo da kk off sh fr to = false by (refine Rul.may_no ?_; unfold Rul.mayP; omega)]
      exact mayr_2 kd mo da kk off sh fr to (Rul.wi_yes s.1 s.2) (Rul.wi_no (by omega)) w hL
  · rw [show Rul.may kd mo da kk off sh fr to = false by (refine Rul.may_no ?_; unfold Rul.mayP; omega)]
    exact mayr_1 kd mo da kk off sh fr to (Rul.wi_no (by omega)) w hL
end Go.Proofs.YtlilffoflkkbdaaDoor
