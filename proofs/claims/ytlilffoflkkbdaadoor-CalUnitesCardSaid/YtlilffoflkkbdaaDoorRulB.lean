/- The contracts of the layer of rules, second part: which rules may be, by the document. Conditions: none. -/
import Derived.Test.YtlilffoflkkbdaaDoorRulA
namespace Go.Proofs.YtlilffoflkkbdaaDoor
open Go.RowKit
set_option linter.unusedVariables false

set_option maxHeartbeats 1000000 in
theorem rmay_1 (kd mo da kk off sh fr to : Int) (k0 : kd < 0) (w : World) : Calls Tryd.prog 42 #[.agg #[.int .i64 kd, .int .i64 mo, .int .i64 da, .int .i64 kk, .int .i64 off, .int .i64 sh, .int .i64 fr, .int .i64 to]] w fun e w' => e = .returned (.bool false) ∧ Below w.heap.size w w' := by
  go_enter Tryd.func42, Tryd.ntmps42
  go_wp2_with (first | (go_at_call 67; refine (rin_c _ _ _ _).mono ?_; rintro e w' ⟨rfl, rfl⟩))
  go_ret
  exact ⟨rfl, by repeat (first | assumption | exact Below.refl _ _ | (with_reducible refine Below.drew ?_) | (with_reducible refine below_drewN' ?_ _) | (with_reducible refine below_al ?_) | ((with_reducible refine below_set ?_ ?_); rotate_left; focus (first | (simp; done) | (simp; omega))))⟩
set_option maxHeartbeats 1000000 in
theorem rmay_2 (kd mo da kk off sh fr to : Int) (k0 : ¬ kd < 0) (k1 : 3 < kd) (w : World) : Calls Tryd.prog 42 #[.agg #[.int .i64 kd, .int .i64 mo, .int .i64 da, .int .i64 kk, .int .i64 off, .int .i64 sh, .int .i64 fr, .int .i64 to]] w fun e w' => e = .returned (.bool false) ∧ Below w.heap.size w w' := by
  go_enter Tryd.func42, Tryd.ntmps42
  go_wp2_with (first | (go_at_call 67; refine (rin_c _ _ _ _).mono ?_; rintro e w' ⟨rfl, rfl⟩))
  go_ret
  exact ⟨rfl, by repeat (first | assumption | exact Below.refl _ _ | (with_reducible refine Below.drew ?_) | (with_reducible refine below_drewN' ?_ _) | (with_reducible refine below_al ?_) | ((with_reducible refine below_set ?_ ?_); rotate_left; focus (first | (simp; done) | (simp; omega))))⟩
set_option maxHeartbeats 1000000 in
theorem rmay_3 (kd mo da kk off sh fr to : Int) (k0 : ¬ kd < 0) (k1 : ¬ 3 < kd) (s0 : sh < 0) (w : World) : Calls Tryd.prog 42 #[.agg #[.int .i64 kd, .int .i64 mo, .int .i64 da, .int .i64 kk, .int .i64 off, .int .i64 sh, .int .i64 fr, .int .i64 to]] w fun e w' => e = .returned (.bool false) ∧ Below w.heap.size w w' := by
  go_enter Tryd.func42, Tryd.ntmps42
  go_wp2_with (first | (go_at_call 67; refine (rin_c _ _ _ _).mono ?_; rintro e w' ⟨rfl, rfl⟩))
  go_ret
  exact ⟨rfl, by repeat (first | assumption | exact Below.refl _ _ | (with_reducible refine Below.drew ?_) | (with_reducible refine below_drewN' ?_ _) | (with_reducible refine below_al ?_) | ((with_reducible refine below_set ?_ ?_); rotate_left; focus (first | (simp; done) | (simp; omega))))⟩
set_option maxHeartbeats 1000000 in
theorem rmay_4 (kd mo da kk off sh fr to : Int) (k0 : ¬ kd < 0) (k1 : ¬ 3 < kd) (s0 : ¬ sh < 0) (s1 : 2 < sh) (w : World) : Calls Tryd.prog 42 #[.agg #[.int .i64 kd, .int .i64 mo, .int .i64 da, .int .i64 kk, .int .i64 off, .int .i64 sh, .int .i64 fr, .int .i64 to]] w fun e w' => e = .returned (.bool false) ∧ Below w.heap.size w w' := by
  go_enter Tryd.func42, Tryd.ntmps42
  go_wp2_with (first | (go_at_call 67; refine (rin_c _ _ _ _).mono ?_; rintro e w' ⟨rfl, rfl⟩))
  go_ret
  exact ⟨rfl, by repeat (first | assumption | exact Below.refl _ _ | (with_reducible refine Below.drew ?_) | (with_reducible refine below_drewN' ?_ _) | (with_reducible refine below_al ?_) | ((with_reducible refine below_set ?_ ?_); rotate_left; focus (first | (simp; done) | (simp; omega))))⟩
set_option maxHeartbeats 1000000 in
theorem rmay_5 (kd mo da kk off sh fr to : Int) (k0 : ¬ kd < 0) (k1 : ¬ 3 < kd) (s0 : ¬ sh < 0) (s1 : ¬ 2 < sh) (f0 : fr < 1) (w : World) : Calls Tryd.prog 42 #[.agg #[.int .i64 kd, .int .i64 mo, .int .i64 da, .int .i64 kk, .int .i64 off, .int .i64 sh, .int .i64 fr, .int .i64 to]] w fun e w' => e = .returned (.bool false) ∧ Below w.heap.size w w' := by
  go_enter Tryd.func42, Tryd.ntmps42
  go_wp2_with (first | (go_at_call 67; refine (rin_c _ _ _ _).mono ?_; rintro e w' ⟨rfl, rfl⟩))
  go_ret
  exact ⟨rfl, by repeat (first | assumption | exact Below.refl _ _ | (with_reducible refine Below.drew ?_) | (with_reducible refine below_drewN' ?_ _) | (with_reducible refine below_al ?_) | ((with_reducible refine below_set ?_ ?_); rotate_left; focus (first | (simp; done) | (simp; omega))))⟩
set_option maxHeartbeats 1000000 in
theorem rmay_6 (kd mo da kk off sh fr to : Int) (k0 : ¬ kd < 0) (k1 : ¬ 3 < kd) (s0 : ¬ sh < 0) (s1 : ¬ 2 < sh) (f0 : ¬ fr < 1) (f1 : to < fr) (w : World) : Calls Tryd.prog 42 #[.agg #[.int .i64 kd, .int .i64 mo, .int .i64 da, .int .i64 kk, .int .i64 off, .int .i64 sh, .int .i64 fr, .int .i64 to]] w fun e w' => e = .returned (.bool false) ∧ Below w.heap.size w w' := by
  go_enter Tryd.func42, Tryd.ntmps42
  go_wp2_with (first | (go_at_call 67; refine (rin_c _ _ _ _).mono ?_; rintro e w' ⟨rfl, rfl⟩))
  go_ret
  exact ⟨rfl, by repeat (first | assumption | exact Below.refl _ _ | (with_reducible refine Below.drew ?_) | (with_reducible refine below_drewN' ?_ _) | (with_reducible refine below_al ?_) | ((with_reducible refine below_set ?_ ?_); rotate_left; focus (first | (simp; done) | (simp; omega))))⟩
set_option maxHeartbeats 1000000 in
theorem rmay_7 (kd mo da kk off sh fr to : Int) (k0 : ¬ kd < 0) (k1 : ¬ 3 < kd) (s0 : ¬ sh < 0) (s1 : ¬ 2 < sh) (f0 : ¬ fr < 1) (f1 : ¬ to < fr) (t0 : 9999 < to) (w : World) : Calls Tryd.prog 42 #[.agg #[.int .i64 kd, .int .i64 mo, .int .i64 da, .int .i64 kk, .int .i64 off, .int .i64 sh, .int .i64 fr, .int .i64 to]] w fun e w' => e = .returned (.bool false) ∧ Below w.heap.size w w' := by
  go_enter Tryd.func42, Tryd.ntmps42
  go_wp2_with (first | (go_at_call 67; refine (rin_c _ _ _ _).mono ?_; rintro e w' ⟨rfl, rfl⟩))
  go_ret
  exact ⟨rfl, by repeat (first | assumption | exact Below.refl _ _ | (with_reducible refine Below.drew ?_) | (with_reducible refine below_drewN' ?_ _) | (with_reducible refine below_al ?_) | ((with_reducible refine below_set ?_ ?_); rotate_left; focus (first | (simp; done) | (simp; omega))))⟩
set_option maxHeartbeats 1000000 in
theorem rmay_30 (kd mo da kk off sh fr to : Int)  (s0 : ¬ sh < 0) (s1 : ¬ 2 < sh) (f0 : ¬ fr < 1) (f1 : ¬ to < fr) (t0 : ¬ 9999 < to) (w : World) : Calls Tryd.prog 42 #[.agg #[.int .i64 3, .int .i64 mo, .int .i64 da, .int .i64 kk, .int .i64 off, .int .i64 sh, .int .i64 fr, .int .i64 to]] w fun e w' => e = .returned (.bool (Rul.wi off (-100) 250)) ∧ Below w.heap.size w w' := by
  go_enter Tryd.func42, Tryd.ntmps42
  go_wp2_with (first | (go_at_call 67; refine (rin_c _ _ _ _).mono ?_; rintro e w' ⟨rfl, rfl⟩))
  go_ret
  exact ⟨rfl, by repeat (first | assumption | exact Below.refl _ _ | (with_reducible refine Below.drew ?_) | (with_reducible refine below_drewN' ?_ _) | (with_reducible refine below_al ?_) | ((with_reducible refine below_set ?_ ?_); rotate_left; focus (first | (simp; done) | (simp; omega))))⟩
set_option maxHeartbeats 1000000 in
theorem rmay_m0 (kd mo da kk off sh fr to : Int) (k0 : ¬ kd < 0) (k1 : ¬ 3 < kd) (k3 : (kd == 3) = false) (s0 : ¬ sh < 0) (s1 : ¬ 2 < sh) (f0 : ¬ fr < 1) (f1 : ¬ to < fr) (t0 : ¬ 9999 < to) (m0 : mo < 1) (w : World) : Calls Tryd.prog 42 #[.agg #[.int .i64 kd, .int .i64 mo, .int .i64 da, .int .i64 kk, .int .i64 off, .int .i64 sh, .int .i64 fr, .int .i64 to]] w fun e w' => e = .returned (.bool false) ∧ Below w.heap.size w w' := by
  go_enter Tryd.func42, Tryd.ntmps42
  go_wp2_with (first | (go_at_call 67; refine (rin_c _ _ _ _).mono ?_; rintro e w' ⟨rfl, rfl⟩))
  go_ret
  exact ⟨rfl, by repeat (first | assumption | exact Below.refl _ _ | (with_reducible refine Below.drew ?_) | (with_reducible refine below_drewN' ?_ _) | (with_reducible refine below_al ?_) | ((with_reducible refine below_set ?_ ?_); rotate_left; focus (first | (simp; done) | (simp; omega))))⟩
set_option maxHeartbeats 1000000 in
theorem rmay_m1 (kd mo da kk off sh fr to : Int) (k0 : ¬ kd < 0) (k1 : ¬ 3 < kd) (k3 : (kd == 3) = false) (s0 : ¬ sh < 0) (s1 : ¬ 2 < sh) (f0 : ¬ fr < 1) (f1 : ¬ to < fr) (t0 : ¬ 9999 < to) (m0 : ¬ mo < 1) (m1 : 12 < mo) (w : World) : Calls Tryd.prog 42 #[.agg #[.int .i64 kd, .int .i64 mo, .int .i64 da, .int .i64 kk, .int .i64 off, .int .i64 sh, .int .i64 fr, .int .i64 to]] w fun e w' => e = .returned (.bool false) ∧ Below w.heap.size w w' := by
  go_enter Tryd.func42, Tryd.ntmps42
  go_wp2_with (first | (go_at_call 67; refine (rin_c _ _ _ _).mono ?_; rintro e w' ⟨rfl, rfl⟩))
  go_ret
  exact ⟨rfl, by repeat (first | assumption | exact Below.refl _ _ | (with_reducible refine Below.drew ?_) | (with_reducible refine below_drewN' ?_ _) | (with_reducible refine below_al ?_) | ((with_reducible refine below_set ?_ ?_); rotate_left; focus (first | (simp; done) | (simp; omega))))⟩
set_option maxHeartbeats 1000000 in
theorem rmay_01 (kd mo da kk off sh fr to : Int)  (s0 : ¬ sh < 0) (s1 : ¬ 2 < sh) (f0 : ¬ fr < 1) (f1 : ¬ to < fr) (t0 : ¬ 9999 < to) (m0 : ¬ mo < 1) (m1 : ¬ 12 < mo) (w : World) : Calls Tryd.prog 42 #[.agg #[.int .i64 0, .int .i64 mo, .int .i64 da, .int .i64 kk, .int .i64 off, .int .i64 sh, .int .i64 fr, .int .i64 to]] w fun e w' => e = .returned (.bool (Rul.wi da 1 (Cal.len 2000 mo))) ∧ Below w.heap.size w w' := by
  go_enter Tryd.func42, Tryd.ntmps42
  go_wp2_with (first | (go_at_call 67; refine (rin_c _ _ _ _).mono ?_; rintro e w' ⟨rfl, rfl⟩) | (go_at_call 52; refine (rlength_c _ _ _).mono ?_; rintro e w' ⟨rfl, rfl⟩))
  go_quiet (first | (go_at_call 67; exact Calls.quiet_of_same ((rin_c _ _ _ _).mono fun _ _ h => ⟨h.1, h.2.symm⟩)) | (go_at_call 52; exact Calls.quiet_of_same ((rlength_c _ _ _).mono fun _ _ h => ⟨h.1, h.2.symm⟩)))
  go_wp2_with (first | (go_at_call 67; refine (rin_c _ _ _ _).mono ?_; rintro e w' ⟨rfl, rfl⟩) | (go_at_call 52; refine (rlength_c _ _ _).mono ?_; rintro e w' ⟨rfl, rfl⟩))
  go_ret
  exact ⟨rfl, by repeat (first | assumption | exact Below.refl _ _ | (with_reducible refine Below.drew ?_) | (with_reducible refine below_drewN' ?_ _) | (with_reducible refine below_al ?_) | ((with_reducible refine below_set ?_ ?_); rotate_left; focus (first | (simp; done) | (simp; omega))))⟩
set_option maxHeartbeats 1000000 in
theorem rmay_10 (kd mo da kk off sh fr to : Int)  (s0 : ¬ sh < 0) (s1 : ¬ 2 < sh) (f0 : ¬ fr < 1) (f1 : ¬ to < fr) (t0 : ¬ 9999 < to) (m0 : ¬ mo < 1) (m1 : ¬ 12 < mo) (d0 : Rul.wi da 0 6 = false) (w : World) : Calls Tryd.prog 42 #[.agg #[.int .i64 1, .int .i64 mo, .int .i64 da, .int .i64 kk, .int .i64 off, .int .i64 sh, .int .i64 fr, .int .i64 to]] w fun e w' => e = .returned (.bool false) ∧ Below w.heap.size w w' := by
  go_enter Tryd.func42, Tryd.ntmps42
  go_wp2_with (first | (go_at_call 67; refine (rin_c _ _ _ _).mono ?_; rintro e w' ⟨rfl, rfl⟩))
  go_ret
  exact ⟨rfl, by repeat (first | assumption | exact Below.refl _ _ | (with_reducible refine Below.drew ?_) | (with_reducible refine below_drewN' ?_ _) | (with_reducible refine below_al ?_) | ((with_reducible refine below_set ?_ ?_); rotate_left; focus (first | (simp; done) | (simp; omega))))⟩
set_option maxHeartbeats 1000000 in
theorem rmay_11 (kd mo da kk off sh fr to : Int)  (s0 : ¬ sh < 0) (s1 : ¬ 2 < sh) (f0 : ¬ fr < 1) (f1 : ¬ to < fr) (t0 : ¬ 9999 < to) (m0 : ¬ mo < 1) (m1 : ¬ 12 < mo) (d0 : Rul.wi da 0 6 = true) (w : World) : Calls Tryd.prog 42 #[.agg #[.int .i64 1, .int .i64 mo, .int .i64 da, .int .i64 kk, .int .i64 off, .int .i64 sh, .int .i64 fr, .int .i64 to]] w fun e w' => e = .returned (.bool (Rul.wi kk 1 5)) ∧ Below w.heap.size w w' := by
  go_enter Tryd.func42, Tryd.ntmps42
  go_wp2_with (first | (go_at_call 67; refine (rin_c _ _ _ _).mono ?_; rintro e w' ⟨rfl, rfl⟩))
  go_ret
  exact ⟨rfl, by repeat (first | assumption | exact Below.refl _ _ | (with_reducible refine Below.drew ?_) | (with_reducible refine below_drewN' ?_ _) | (with_reducible refine below_al ?_) | ((with_reducible refine below_set ?_ ?_); rotate_left; focus (first | (simp; done) | (simp; omega))))⟩
set_option maxHeartbeats 1000000 in
theorem rmay_20 (kd mo da kk off sh fr to : Int)  (s0 : ¬ sh < 0) (s1 : ¬ 2 < sh) (f0 : ¬ fr < 1) (f1 : ¬ to < fr) (t0 : ¬ 9999 < to) (m0 : ¬ mo < 1) (m1 : ¬ 12 < mo) (d0 : Rul.wi da 0 6 = false) (w : World) : Calls Tryd.prog 42 #[.agg #[.int .i64 2, .int .i64 mo, .int .i64 da, .int .i64 kk, .int .i64 off, .int .i64 sh, .int .i64 fr, .int .i64 to]] w fun e w' => e = .returned (.bool false) ∧ Below w.heap.size w w' := by
  go_enter Tryd.func42, Tryd.ntmps42
  go_wp2_with (first | (go_at_call 67; refine (rin_c _ _ _ _).mono ?_; rintro e w' ⟨rfl, rfl⟩))
  go_ret
  exact ⟨rfl, by repeat (first | assumption | exact Below.refl _ _ | (with_reducible refine Below.drew ?_) | (with_reducible refine below_drewN' ?_ _) | (with_reducible refine below_al ?_) | ((with_reducible refine below_set ?_ ?_); rotate_left; focus (first | (simp; done) | (simp; omega))))⟩
set_option maxHeartbeats 1000000 in
theorem rmay_21 (kd mo da kk off sh fr to : Int)  (s0 : ¬ sh < 0) (s1 : ¬ 2 < sh) (f0 : ¬ fr < 1) (f1 : ¬ to < fr) (t0 : ¬ 9999 < to) (m0 : ¬ mo < 1) (m1 : ¬ 12 < mo) (d0 : Rul.wi da 0 6 = true) (w : World) : Calls Tryd.prog 42 #[.agg #[.int .i64 2, .int .i64 mo, .int .i64 da, .int .i64 kk, .int .i64 off, .int .i64 sh, .int .i64 fr, .int .i64 to]] w fun e w' => e = .returned (.bool true) ∧ Below w.heap.size w w' := by
  go_enter Tryd.func42, Tryd.ntmps42
  go_wp2_with (first | (go_at_call 67; refine (rin_c _ _ _ _).mono ?_; rintro e w' ⟨rfl, rfl⟩))
  go_ret
  exact ⟨rfl, by repeat (first | assumption | exact Below.refl _ _ | (with_reducible refine Below.drew ?_) | (with_reducible refine below_drewN' ?_ _) | (with_reducible refine below_al ?_) | ((with_reducible refine below_set ?_ ?_); rotate_left; focus (first | (simp; done) | (simp; omega))))⟩
theorem rruleMay_c (kd mo da kk off sh fr to : Int) (w : World) : Calls Tryd.prog 42 #[.agg #[.int .i64 kd, .int .i64 mo, .int .i64 da, .int .i64 kk, .int .i64 off, .int .i64 sh, .int .i64 fr, .int .i64 to]] w fun e w' => e = .returned (.bool (Rul.may kd mo da kk off sh fr to)) ∧ Below w.heap.size w w' := by
  by_cases k0 : kd < 0
  · rw [show Rul.may kd mo da kk off sh fr to = false by (refine Rul.may_no ?_; unfold Rul.mayP; omega)]; exact rmay_1 kd mo da kk off sh fr to k0 w
  by_cases k1 : 3 < kd
  · rw [show Rul.may kd mo da kk off sh fr to = false by (refine Rul.may_no ?_; unfold Rul.mayP; omega)]; exact rmay_2 kd mo da kk off sh fr to k0 k1 w
  by_cases s0 : sh < 0
  · rw [show Rul.may kd mo da kk off sh fr to = false by (refine Rul.may_no ?_; unfold Rul.mayP; omega)]; exact rmay_3 kd mo da kk off sh fr to k0 k1 s0 w
  by_cases s1 : 2 < sh
  · rw [show Rul.may kd mo da kk off sh fr to = false by (refine Rul.may_no ?_; unfold Rul.mayP; omega)]; exact rmay_4 kd mo da kk off sh fr to k0 k1 s0 s1 w
  by_cases f0 : fr < 1
  · rw [show Rul.may kd mo da kk off sh fr to = false by (refine Rul.may_no ?_; unfold Rul.mayP; omega)]; exact rmay_5 kd mo da kk off sh fr to k0 k1 s0 s1 f0 w
  by_cases f1 : to < fr
  · rw [show Rul.may kd mo da kk off sh fr to = false by (refine Rul.may_no ?_; unfold Rul.mayP; omega)]; exact rmay_6 kd mo da kk off sh fr to k0 k1 s0 s1 f0 f1 w
  by_cases t0 : 9999 < to
  · rw [show Rul.may kd mo da kk off sh fr to = false by (refine Rul.may_no ?_; unfold Rul.mayP; omega)]; exact rmay_7 kd mo da kk off sh fr to k0 k1 s0 s1 f0 f1 t0 w
  by_cases k3 : kd = 3
  · subst k3
    rw [show Rul.may 3 mo da kk off sh fr to = Rul.wi off (-100) 250 by (refine Bool.eq_iff_iff.2 ?_; rw [Rul.may_iff, Rul.wi_iff]; unfold Rul.mayP; omega)]
    exact rmay_30 3 mo da kk off sh fr to s0 s1 f0 f1 t0 w
  by_cases m0 : mo < 1
  · rw [show Rul.may kd mo da kk off sh fr to = false by (refine Rul.may_no ?_; unfold Rul.mayP; omega)]; exact rmay_m0 kd mo da kk off sh fr to k0 k1 (beq_eq_false_iff_ne.2 k3) s0 s1 f0 f1 t0 m0 w
  by_cases m1 : 12 < mo
  · rw [show Rul.may kd mo da kk off sh fr to = false by (refine Rul.may_no ?_; unfold Rul.mayP; omega)]; exact rmay_m1 kd mo da kk off sh fr to k0 k1 (beq_eq_false_iff_ne.2 k3) s0 s1 f0 f1 t0 m0 m1 w
  have h : kd = 0 ∨ kd = 1 ∨ kd = 2 := by omega
  rcases h with rfl | rfl | rfl
  · rw [show Rul.may 0 mo da kk off sh fr to = Rul.wi da 1 (Cal.len 2000 mo) by (refine Bool.eq_iff_iff.2 ?_; rw [Rul.may_iff, Rul.wi_iff]; unfold Rul.mayP; omega)]
    exact rmay_01 0 mo da kk off sh fr to s0 s1 f0 f1 t0 m0 m1 w
  · by_cases d : 0 ≤ da ∧ da ≤ 6
    · rw [show Rul.may 1 mo da kk off sh fr to = Rul.wi kk 1 5 by (refine Bool.eq_iff_iff.2 ?_; rw [Rul.may_iff, Rul.wi_iff]; unfold Rul.mayP; omega)]
      exact rmay_11 1 mo da kk off sh fr to s0 s1 f0 f1 t0 m0 m1 (Rul.wi_yes d.1 d.2) w
    · rw [show Rul.may 1 mo da kk off sh fr to = false by (refine Rul.may_no ?_; unfold Rul.mayP; omega)]
      exact rmay_10 1 mo da kk off sh fr to s0 s1 f0 f1 t0 m0 m1 (Rul.wi_no (by omega)) w
  · by_cases d : 0 ≤ da ∧ da ≤ 6
    · rw [show Rul.may 2 mo da kk off sh fr to = true from Rul.may_iff.2 (by unfold Rul.mayP; omega)]
      exact rmay_21 2 mo da kk off sh fr to s0 s1 f0 f1 t0 m0 m1 (Rul.wi_yes d.1 d.2) w
    · rw [show Rul.may 2 mo da kk off sh fr to = false by (refine Rul.may_no ?_; unfold Rul.mayP; omega)]
      exact rmay_20 2 mo da kk off sh fr to s0 s1 f0 f1 t0 m0 m1 (Rul.wi_no (by omega)) w
end Go.Proofs.YtlilffoflkkbdaaDoor
