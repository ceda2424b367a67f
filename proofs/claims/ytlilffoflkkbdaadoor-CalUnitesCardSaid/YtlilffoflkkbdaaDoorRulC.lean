/- The contracts of the layer of rules, third part: a rule's day of a year, by its kind. Conditions: the table of months' lengths lies as the program's text lays it. -/
import Derived.Test.YtlilffoflkkbdaaDoorRulA
import Derived.Deep.RegionWith
import Derived.BigQuiet
namespace Go.Proofs.YtlilffoflkkbdaaDoor
open Go.RowKit
set_option linter.unusedVariables false

theorem rday_in (n : Int) (g : Rul.wi n 1 3652059 = true) (w : World) : Calls Tryd.prog 87 #[.int .i64 n] w fun e w' => e = .returned (.tuple #[.int .i64 n, .int .i64 0]) ∧ w = w' := by
  go_enter Tryd.func87, Tryd.ntmps87
  go_wp2_with (go_at_call 73; refine (within_c _ _ _ _).mono ?_; rintro e w' ⟨rfl, rfl⟩)
  go_ret2
  first | exact ⟨rfl, rfl⟩ | trivial
theorem rday_out (n : Int) (g : Rul.wi n 1 3652059 = false) (w : World) : Calls Tryd.prog 87 #[.int .i64 n] w fun e w' => e = .returned (.tuple #[.int .i64 0, .int .i64 3]) ∧ w = w' := by
  go_enter Tryd.func87, Tryd.ntmps87
  go_wp2_with (go_at_call 73; refine (within_c _ _ _ _).mono ?_; rintro e w' ⟨rfl, rfl⟩)
  go_ret2
  first | exact ⟨rfl, rfl⟩ | trivial
/-- The code of a day that is, or isn't. -/
def dayE (n : Int) : Int := if 1 ≤ n ∧ n ≤ 3652059 then 0 else 3
theorem ruleDay_c (n : Int) (w : World) : Calls Tryd.prog 87 #[.int .i64 n] w fun e w' => e = .returned (.tuple #[.int .i64 (Rul.dayV n), .int .i64 (dayE n)]) ∧ w = w' := by
  by_cases h : 1 ≤ n ∧ n ≤ 3652059
  · rw [Rul.dayV_in h.1 h.2, show dayE n = 0 from if_pos h]; exact rday_in n (Rul.wi_yes h.1 h.2) w
  · rw [Rul.dayV_out (by omega), show dayE n = 3 from if_neg h]; exact rday_out n (Rul.wi_no (by omega)) w
set_option maxHeartbeats 1000000 in
theorem fixed_c (kd mo da kk off sh fr to y : Int)  (w : World) (hL : Laid w) : Calls Tryd.prog 92 #[.agg #[.int .i64 kd, .int .i64 mo, .int .i64 da, .int .i64 kk, .int .i64 off, .int .i64 sh, .int .i64 fr, .int .i64 to], .int .i64 y] w fun e w' => e = .returned (.tuple #[.int .i64 (numV y mo da), .int .i64 (numE y mo da)]) ∧ Below w.heap.size w w' := by
  have hB : Below w.heap.size w w := Below.refl _ _
  go_enter Tryd.func92, Tryd.ntmps92
  go_wp2_with fail
  refine (number_c _ _ _ _ (hL.below (by repeat (first | assumption | exact Below.refl _ _ | (with_reducible refine Below.drew ?_) | (with_reducible refine below_drewN' ?_ _) | (with_reducible refine below_al ?_) | ((with_reducible refine below_set ?_ ?_); rotate_left; focus (first | (simp; done) | (simp; omega))))))).mono ?_; rintro e w1 ⟨rfl, hb1⟩
  have hz1 := hb1.size; (try simp at hz1); obtain ⟨hc1, hf1⟩ := bcell hb1; have hB1 := below_step (w := w) hb1 (by repeat (first | assumption | exact Below.refl _ _ | (with_reducible refine Below.drew ?_) | (with_reducible refine below_drewN' ?_ _) | (with_reducible refine below_al ?_) | ((with_reducible refine below_set ?_ ?_); rotate_left; focus (first | (simp; done) | (simp; omega)))))
  have le_w_w1 : w.heap.size ≤ w1.heap.size := by omega
  try have lt_w_w1 : w.heap.size < w1.heap.size := by omega
  go_wp2_with fail
  go_ret2
  exact ⟨rfl, by repeat (first | assumption | exact Below.refl _ _ | (with_reducible refine Below.drew ?_) | (with_reducible refine below_drewN' ?_ _) | (with_reducible refine below_al ?_) | ((with_reducible refine below_set ?_ ?_); rotate_left; focus (first | (simp; done) | (simp; omega))))⟩
set_option maxHeartbeats 1000000 in
theorem easter_c2 (kd mo da kk off sh fr to y : Int) (y1 : 1 ≤ y) (y2 : y ≤ 9999) (o1 : -100 ≤ off) (o2 : off ≤ 250) (v1 : 1 ≤ easV y) (v2 : easV y ≤ 3652059) (ve : easE y = 0) (w : World) (hL : Laid w) : Calls Tryd.prog 95 #[.agg #[.int .i64 kd, .int .i64 mo, .int .i64 da, .int .i64 kk, .int .i64 off, .int .i64 sh, .int .i64 fr, .int .i64 to], .int .i64 y] w fun e w' => e = .returned (.tuple #[.int .i64 (Rul.dayV (easV y + off)), .int .i64 (dayE (easV y + off))]) ∧ Below w.heap.size w w' := by
  have hB : Below w.heap.size w w := Below.refl _ _
  go_enter Tryd.func95, Tryd.ntmps95
  go_wp2_with fail
  refine (easter_c _ _ (hL.below (by repeat (first | assumption | exact Below.refl _ _ | (with_reducible refine Below.drew ?_) | (with_reducible refine below_drewN' ?_ _) | (with_reducible refine below_al ?_) | ((with_reducible refine below_set ?_ ?_); rotate_left; focus (first | (simp; done) | (simp; omega))))))).mono ?_; rintro e w1 ⟨rfl, hb1⟩
  have hz1 := hb1.size; (try simp at hz1); obtain ⟨hc1, hf1⟩ := bcell hb1; have hB1 := below_step (w := w) hb1 (by repeat (first | assumption | exact Below.refl _ _ | (with_reducible refine Below.drew ?_) | (with_reducible refine below_drewN' ?_ _) | (with_reducible refine below_al ?_) | ((with_reducible refine below_set ?_ ?_); rotate_left; focus (first | (simp; done) | (simp; omega)))))
  have le_w_w1 : w.heap.size ≤ w1.heap.size := by omega
  try have lt_w_w1 : w.heap.size < w1.heap.size := by omega
  go_wp2_with fail
  refine (ruleDay_c _ _).mono ?_; rintro e w' ⟨rfl, rfl⟩
  go_wp2_with fail
  go_ret2
  exact ⟨rfl, by repeat (first | assumption | exact Below.refl _ _ | (with_reducible refine Below.drew ?_) | (with_reducible refine below_drewN' ?_ _) | (with_reducible refine below_al ?_) | ((with_reducible refine below_set ?_ ?_); rotate_left; focus (first | (simp; done) | (simp; omega))))⟩
set_option maxHeartbeats 1000000 in
theorem nth_c (kd mo da kk off sh fr to y : Int) (hm : Cal.mayB y mo 1 = true) (n1 : 1 ≤ Cal.num y mo 1) (n2 : Cal.num y mo 1 ≤ 3652059) (d1 : 0 ≤ da) (d2 : da ≤ 6) (q1 : 1 ≤ kk) (q2 : kk ≤ 5) (b1 : 0 ≤ Cal.wd (Cal.num y mo 1)) (b2 : Cal.wd (Cal.num y mo 1) ≤ 6) (w : World) (hL : Laid w) : Calls Tryd.prog 93 #[.agg #[.int .i64 kd, .int .i64 mo, .int .i64 da, .int .i64 kk, .int .i64 off, .int .i64 sh, .int .i64 fr, .int .i64 to], .int .i64 y] w fun e w' => e = .returned (.tuple #[.int .i64 (numV y mo (Rul.nthD y mo da kk)), .int .i64 (numE y mo (Rul.nthD y mo da kk))]) ∧ Below w.heap.size w w' := by
  obtain ⟨e1, e2⟩ := numV_yes hm
  unfold Rul.nthD
  have hB : Below w.heap.size w w := Below.refl _ _
  go_enter Tryd.func93, Tryd.ntmps93
  go_wp2_with fail
  refine (number_c _ _ _ _ (hL.below (by repeat (first | assumption | exact Below.refl _ _ | (with_reducible refine Below.drew ?_) | (with_reducible refine below_drewN' ?_ _) | (with_reducible refine below_al ?_) | ((with_reducible refine below_set ?_ ?_); rotate_left; focus (first | (simp; done) | (simp; omega))))))).mono ?_; rintro e w1 ⟨rfl, hb1⟩
  have hz1 := hb1.size; (try simp at hz1); obtain ⟨hc1, hf1⟩ := bcell hb1; have hB1 := below_step (w := w) hb1 (by repeat (first | assumption | exact Below.refl _ _ | (with_reducible refine Below.drew ?_) | (with_reducible refine below_drewN' ?_ _) | (with_reducible refine below_al ?_) | ((with_reducible refine below_set ?_ ?_); rotate_left; focus (first | (simp; done) | (simp; omega)))))
  have le_w_w1 : w.heap.size ≤ w1.heap.size := by omega
  try have lt_w_w1 : w.heap.size < w1.heap.size := by omega
  go_wp2_with fail
  go_quiet ((go_at_call 60; exact Calls.quiet_of_same ((wd_c _ _).mono fun _ _ h => ⟨h.1, h.2.symm⟩)))
  go_wp2_with fail
  refine (number_c _ _ _ _ (hL.below (by repeat (first | assumption | exact Below.refl _ _ | (with_reducible refine Below.drew ?_) | (with_reducible refine below_drewN' ?_ _) | (with_reducible refine below_al ?_) | ((with_reducible refine below_set ?_ ?_); rotate_left; focus (first | (simp; done) | (simp; omega))))))).mono ?_; rintro e w2 ⟨rfl, hb2⟩
  have hz2 := hb2.size; (try simp at hz2); obtain ⟨hc2, hf2⟩ := bcell hb2; have hB2 := below_step (w := w) hb2 (by repeat (first | assumption | exact Below.refl _ _ | (with_reducible refine Below.drew ?_) | (with_reducible refine below_drewN' ?_ _) | (with_reducible refine below_al ?_) | ((with_reducible refine below_set ?_ ?_); rotate_left; focus (first | (simp; done) | (simp; omega)))))
  have le_w_w2 : w.heap.size ≤ w2.heap.size := by omega
  try have lt_w_w2 : w.heap.size < w2.heap.size := by omega
  have le_w1_w2 : w1.heap.size ≤ w2.heap.size := by omega
  try have lt_w1_w2 : w1.heap.size < w2.heap.size := by omega
  go_wp2_with fail
  go_ret2
  exact ⟨rfl, by repeat (first | assumption | exact Below.refl _ _ | (with_reducible refine Below.drew ?_) | (with_reducible refine below_drewN' ?_ _) | (with_reducible refine below_al ?_) | ((with_reducible refine below_set ?_ ?_); rotate_left; focus (first | (simp; done) | (simp; omega))))⟩
set_option maxHeartbeats 1000000 in
theorem last_c2 (kd mo da kk off sh fr to y : Int) (hm : Cal.mayB y mo (Cal.len y mo) = true) (n1 : 1 ≤ Cal.num y mo (Cal.len y mo)) (n2 : Cal.num y mo (Cal.len y mo) ≤ 3652059) (d1 : 0 ≤ da) (d2 : da ≤ 6) (b1 : 0 ≤ Cal.wd (Cal.num y mo (Cal.len y mo))) (b2 : Cal.wd (Cal.num y mo (Cal.len y mo)) ≤ 6) (w : World) (hL : Laid w) : Calls Tryd.prog 94 #[.agg #[.int .i64 kd, .int .i64 mo, .int .i64 da, .int .i64 kk, .int .i64 off, .int .i64 sh, .int .i64 fr, .int .i64 to], .int .i64 y] w fun e w' => e = .returned (.tuple #[.int .i64 (Rul.lastD y mo da), .int .i64 0]) ∧ Below w.heap.size w w' := by
  obtain ⟨e1, e2⟩ := numV_yes hm
  unfold Rul.lastD
  have hB : Below w.heap.size w w := Below.refl _ _
  go_enter Tryd.func94, Tryd.ntmps94
  go_wp2_with fail
  go_region_with (first | (go_at_call 70; refine (length_c _ _ _ (hL.below (by repeat (first | assumption | exact Below.refl _ _ | (with_reducible refine Below.drew ?_) | (with_reducible refine below_drewN' ?_ _) | (with_reducible refine below_al ?_) | ((with_reducible refine below_set ?_ ?_); rotate_left; focus (first | (simp; done) | (simp; omega))))))).mono ?_; rintro e w' ⟨rfl, rfl⟩) | (go_at_call 107; refine (number_c _ _ _ _ (hL.below (by repeat (first | assumption | exact Below.refl _ _ | (with_reducible refine Below.drew ?_) | (with_reducible refine below_drewN' ?_ _) | (with_reducible refine below_al ?_) | ((with_reducible refine below_set ?_ ?_); rotate_left; focus (first | (simp; done) | (simp; omega))))))).mono ?_; rintro e w1 ⟨rfl, hb1⟩; have hz := hb1.size; simp at hz; obtain ⟨hc, hf⟩ := bcell hb1))
  all_goals (have hB1 := below_step (w := w) hb1 (by repeat (first | assumption | exact Below.refl _ _ | (with_reducible refine Below.drew ?_) | (with_reducible refine below_drewN' ?_ _) | (with_reducible refine below_al ?_) | ((with_reducible refine below_set ?_ ?_); rotate_left; focus (first | (simp; done) | (simp; omega))))))
  all_goals go_wp2_with fail
  all_goals go_quiet ((go_at_call 60; exact Calls.quiet_of_same ((wd_c _ _).mono fun _ _ h => ⟨h.1, h.2.symm⟩)))
  all_goals go_wp2_with fail
  all_goals go_ret2
  all_goals exact ⟨rfl, by repeat (first | assumption | exact Below.refl _ _ | (with_reducible refine Below.drew ?_) | (with_reducible refine below_drewN' ?_ _) | (with_reducible refine below_al ?_) | ((with_reducible refine below_set ?_ ?_); rotate_left; focus (first | (simp; done) | (simp; omega))))⟩
end Go.Proofs.YtlilffoflkkbdaaDoor
