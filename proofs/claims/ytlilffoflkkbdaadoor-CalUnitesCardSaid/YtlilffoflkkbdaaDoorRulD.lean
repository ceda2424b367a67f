/- The contracts of the layer of rules, fourth part: a rule's day of a year, as it stands. Conditions: the table of months' lengths lies as the program's text lays it. -/
import Derived.Test.YtlilffoflkkbdaaDoorRulC
namespace Go.Proofs.YtlilffoflkkbdaaDoor
open Go.RowKit
set_option linter.unusedVariables false

set_option maxHeartbeats 1000000 in
theorem base_0 (mo da kk off sh fr to y n e0 : Int)  (g : Rul.wi y fr to = true) (w : World) (hL : Laid w) : Calls Tryd.prog 86 #[.agg #[.int .i64 0, .int .i64 mo, .int .i64 da, .int .i64 kk, .int .i64 off, .int .i64 sh, .int .i64 fr, .int .i64 to], .int .i64 y] w fun e w' => e = .returned (.tuple #[.int .i64 (numV y mo da), .bool (numE y mo da == 0)]) ∧ Below w.heap.size w w' := by
  have hB : Below w.heap.size w w := Below.refl _ _
  go_enter Tryd.func86, Tryd.ntmps86
  go_wp2_with (go_at_call 73; refine (within_c _ _ _ _).mono ?_; rintro e w' ⟨rfl, rfl⟩)
  go_region_with (go_at_call 92; refine (fixed_c 0 mo da kk off sh fr to y _ (hL.below (by repeat (first | assumption | exact Below.refl _ _ | (with_reducible refine Below.drew ?_) | (with_reducible refine below_drewN' ?_ _) | (with_reducible refine below_al ?_) | ((with_reducible refine below_set ?_ ?_); rotate_left; focus (first | (simp; done) | (simp; omega))))))).mono ?_; rintro e w1 ⟨rfl, hb1⟩; have hz := hb1.size; simp at hz; obtain ⟨hc, hf⟩ := bcell hb1)
  all_goals (have hB1 := below_step (w := w) hb1 (by repeat (first | assumption | exact Below.refl _ _ | (with_reducible refine Below.drew ?_) | (with_reducible refine below_drewN' ?_ _) | (with_reducible refine below_al ?_) | ((with_reducible refine below_set ?_ ?_); rotate_left; focus (first | (simp; done) | (simp; omega))))))
  all_goals go_wp2_with fail
  all_goals go_ret2
  all_goals exact ⟨rfl, by repeat (first | assumption | exact Below.refl _ _ | (with_reducible refine Below.drew ?_) | (with_reducible refine below_drewN' ?_ _) | (with_reducible refine below_al ?_) | ((with_reducible refine below_set ?_ ?_); rotate_left; focus (first | (simp; done) | (simp; omega))))⟩
set_option maxHeartbeats 1000000 in
theorem base_1 (mo da kk off sh fr to y n e0 : Int) (hm : Cal.mayB y mo 1 = true) (n1 : 1 ≤ Cal.num y mo 1) (n2 : Cal.num y mo 1 ≤ 3652059) (d1 : 0 ≤ da) (d2 : da ≤ 6) (q1 : 1 ≤ kk) (q2 : kk ≤ 5) (b1 : 0 ≤ Cal.wd (Cal.num y mo 1)) (b2 : Cal.wd (Cal.num y mo 1) ≤ 6) (g : Rul.wi y fr to = true) (w : World) (hL : Laid w) : Calls Tryd.prog 86 #[.agg #[.int .i64 1, .int .i64 mo, .int .i64 da, .int .i64 kk, .int .i64 off, .int .i64 sh, .int .i64 fr, .int .i64 to], .int .i64 y] w fun e w' => e = .returned (.tuple #[.int .i64 (numV y mo (Rul.nthD y mo da kk)), .bool (numE y mo (Rul.nthD y mo da kk) == 0)]) ∧ Below w.heap.size w w' := by
  have hB : Below w.heap.size w w := Below.refl _ _
  go_enter Tryd.func86, Tryd.ntmps86
  go_wp2_with (go_at_call 73; refine (within_c _ _ _ _).mono ?_; rintro e w' ⟨rfl, rfl⟩)
  go_region_with (go_at_call 93; refine (nth_c 1 mo da kk off sh fr to y hm n1 n2 d1 d2 q1 q2 b1 b2 _ (hL.below (by repeat (first | assumption | exact Below.refl _ _ | (with_reducible refine Below.drew ?_) | (with_reducible refine below_drewN' ?_ _) | (with_reducible refine below_al ?_) | ((with_reducible refine below_set ?_ ?_); rotate_left; focus (first | (simp; done) | (simp; omega))))))).mono ?_; rintro e w1 ⟨rfl, hb1⟩; have hz := hb1.size; simp at hz; obtain ⟨hc, hf⟩ := bcell hb1)
  all_goals (have hB1 := below_step (w := w) hb1 (by repeat (first | assumption | exact Below.refl _ _ | (with_reducible refine Below.drew ?_) | (with_reducible refine below_drewN' ?_ _) | (with_reducible refine below_al ?_) | ((with_reducible refine below_set ?_ ?_); rotate_left; focus (first | (simp; done) | (simp; omega))))))
  all_goals go_wp2_with fail
  all_goals go_ret2
  all_goals exact ⟨rfl, by repeat (first | assumption | exact Below.refl _ _ | (with_reducible refine Below.drew ?_) | (with_reducible refine below_drewN' ?_ _) | (with_reducible refine below_al ?_) | ((with_reducible refine below_set ?_ ?_); rotate_left; focus (first | (simp; done) | (simp; omega))))⟩
set_option maxHeartbeats 1000000 in
theorem base_2 (mo da kk off sh fr to y n e0 : Int) (hm : Cal.mayB y mo (Cal.len y mo) = true) (n1 : 1 ≤ Cal.num y mo (Cal.len y mo)) (n2 : Cal.num y mo (Cal.len y mo) ≤ 3652059) (d1 : 0 ≤ da) (d2 : da ≤ 6) (b1 : 0 ≤ Cal.wd (Cal.num y mo (Cal.len y mo))) (b2 : Cal.wd (Cal.num y mo (Cal.len y mo)) ≤ 6) (g : Rul.wi y fr to = true) (w : World) (hL : Laid w) : Calls Tryd.prog 86 #[.agg #[.int .i64 2, .int .i64 mo, .int .i64 da, .int .i64 kk, .int .i64 off, .int .i64 sh, .int .i64 fr, .int .i64 to], .int .i64 y] w fun e w' => e = .returned (.tuple #[.int .i64 (Rul.lastD y mo da), .bool ((0 : Int) == 0)]) ∧ Below w.heap.size w w' := by
  have hB : Below w.heap.size w w := Below.refl _ _
  go_enter Tryd.func86, Tryd.ntmps86
  go_wp2_with (go_at_call 73; refine (within_c _ _ _ _).mono ?_; rintro e w' ⟨rfl, rfl⟩)
  go_region_with (go_at_call 94; refine (last_c2 2 mo da kk off sh fr to y hm n1 n2 d1 d2 b1 b2 _ (hL.below (by repeat (first | assumption | exact Below.refl _ _ | (with_reducible refine Below.drew ?_) | (with_reducible refine below_drewN' ?_ _) | (with_reducible refine below_al ?_) | ((with_reducible refine below_set ?_ ?_); rotate_left; focus (first | (simp; done) | (simp; omega))))))).mono ?_; rintro e w1 ⟨rfl, hb1⟩; have hz := hb1.size; simp at hz; obtain ⟨hc, hf⟩ := bcell hb1)
  all_goals (have hB1 := below_step (w := w) hb1 (by repeat (first | assumption | exact Below.refl _ _ | (with_reducible refine Below.drew ?_) | (with_reducible refine below_drewN' ?_ _) | (with_reducible refine below_al ?_) | ((with_reducible refine below_set ?_ ?_); rotate_left; focus (first | (simp; done) | (simp; omega))))))
  all_goals go_wp2_with fail
  all_goals go_ret2
  all_goals exact ⟨rfl, by repeat (first | assumption | exact Below.refl _ _ | (with_reducible refine Below.drew ?_) | (with_reducible refine below_drewN' ?_ _) | (with_reducible refine below_al ?_) | ((with_reducible refine below_set ?_ ?_); rotate_left; focus (first | (simp; done) | (simp; omega))))⟩
set_option maxHeartbeats 1000000 in
theorem base_3 (mo da kk off sh fr to y n e0 : Int) (y1 : 1 ≤ y) (y2 : y ≤ 9999) (o1 : -100 ≤ off) (o2 : off ≤ 250) (v1 : 1 ≤ easV y) (v2 : easV y ≤ 3652059) (ve : easE y = 0) (g : Rul.wi y fr to = true) (w : World) (hL : Laid w) : Calls Tryd.prog 86 #[.agg #[.int .i64 3, .int .i64 mo, .int .i64 da, .int .i64 kk, .int .i64 off, .int .i64 sh, .int .i64 fr, .int .i64 to], .int .i64 y] w fun e w' => e = .returned (.tuple #[.int .i64 (Rul.dayV (easV y + off)), .bool (dayE (easV y + off) == 0)]) ∧ Below w.heap.size w w' := by
  have hB : Below w.heap.size w w := Below.refl _ _
  go_enter Tryd.func86, Tryd.ntmps86
  go_wp2_with (go_at_call 73; refine (within_c _ _ _ _).mono ?_; rintro e w' ⟨rfl, rfl⟩)
  go_region_with (go_at_call 95; refine (easter_c2 3 mo da kk off sh fr to y y1 y2 o1 o2 v1 v2 ve _ (hL.below (by repeat (first | assumption | exact Below.refl _ _ | (with_reducible refine Below.drew ?_) | (with_reducible refine below_drewN' ?_ _) | (with_reducible refine below_al ?_) | ((with_reducible refine below_set ?_ ?_); rotate_left; focus (first | (simp; done) | (simp; omega))))))).mono ?_; rintro e w1 ⟨rfl, hb1⟩; have hz := hb1.size; simp at hz; obtain ⟨hc, hf⟩ := bcell hb1)
  all_goals (have hB1 := below_step (w := w) hb1 (by repeat (first | assumption | exact Below.refl _ _ | (with_reducible refine Below.drew ?_) | (with_reducible refine below_drewN' ?_ _) | (with_reducible refine below_al ?_) | ((with_reducible refine below_set ?_ ?_); rotate_left; focus (first | (simp; done) | (simp; omega))))))
  all_goals go_wp2_with fail
  all_goals go_ret2
  all_goals exact ⟨rfl, by repeat (first | assumption | exact Below.refl _ _ | (with_reducible refine Below.drew ?_) | (with_reducible refine below_drewN' ?_ _) | (with_reducible refine below_al ?_) | ((with_reducible refine below_set ?_ ?_); rotate_left; focus (first | (simp; done) | (simp; omega))))⟩
theorem base_out (kd mo da kk off sh fr to y : Int) (g : Rul.wi y fr to = false) (w : World) : Calls Tryd.prog 86 #[.agg #[.int .i64 kd, .int .i64 mo, .int .i64 da, .int .i64 kk, .int .i64 off, .int .i64 sh, .int .i64 fr, .int .i64 to], .int .i64 y] w fun e w' => e = .returned (.tuple #[.int .i64 0, .bool false]) ∧ Below w.heap.size w w' := by
  go_enter Tryd.func86, Tryd.ntmps86
  go_wp2_with (go_at_call 73; refine (within_c _ _ _ _).mono ?_; rintro e w' ⟨rfl, rfl⟩)
  go_ret2
  exact ⟨rfl, by repeat (first | assumption | exact Below.refl _ _ | (with_reducible refine Below.drew ?_) | (with_reducible refine below_drewN' ?_ _) | (with_reducible refine below_al ?_) | ((with_reducible refine below_set ?_ ?_); rotate_left; focus (first | (simp; done) | (simp; omega))))⟩
theorem numE_pos (y m d : Int) : (numE y m d == 0) = Rul.pos (numV y m d) := by
  cases h : Cal.mayB y m d
  · rw [(numV_no h).1, (numV_no h).2]; rfl
  · rw [(numV_yes h).1, (numV_yes h).2, Rul.pos_yes (by have := (Cal.day_mk h).bd; omega)]; rfl
theorem dayE_pos (n : Int) : (dayE n == 0) = Rul.pos (Rul.dayV n) := by
  by_cases h : 1 ≤ n ∧ n ≤ 3652059
  · rw [Rul.dayV_in h.1 h.2, show dayE n = 0 from if_pos h, Rul.pos_yes (by omega)]; rfl
  · rw [Rul.dayV_out (by omega), show dayE n = 3 from if_neg h]; rfl
theorem ruleBase_c (kd mo da kk off sh fr to y : Int) (hm : Rul.mayP kd mo da kk off sh fr to) (w : World) (hL : Laid w) : Calls Tryd.prog 86 #[.agg #[.int .i64 kd, .int .i64 mo, .int .i64 da, .int .i64 kk, .int .i64 off, .int .i64 sh, .int .i64 fr, .int .i64 to], .int .i64 y] w fun e w' => e = .returned (.tuple #[.int .i64 (Rul.ba kd mo da kk off fr to y), .bool (Rul.pos (Rul.ba kd mo da kk off fr to y))]) ∧ Below w.heap.size w w' := by
  by_cases g : fr ≤ y ∧ y ≤ to
  · have g' := Rul.wi_yes g.1 g.2
    obtain ⟨s1, s2, f1, f2, f3, h⟩ := hm
    have y1 : 1 ≤ y := by omega
    have y2 : y ≤ 9999 := by omega
    rw [Rul.ba_in g.1 g.2]
    rcases h with ⟨rfl, m1, m2, d1, d2⟩ | ⟨rfl, q1, q2, m1, m2, d1, d2⟩ | ⟨rfl, m1, m2, d1, d2⟩ | ⟨rfl, o1, o2⟩
    · rw [show Rul.baK 0 mo da kk off y = numV y mo da from rfl, ← numE_pos]
      exact base_0 mo da kk off sh fr to y 0 0 g' w hL
    · rw [show Rul.baK 1 mo da kk off y = numV y mo (Rul.nthD y mo da kk) from rfl, ← numE_pos]
      have v := Rul.may_one y1 y2 m1 m2
      have b := (Cal.day_mk v).bd
      have c := Cal.wd_bd (Cal.num y mo 1)
      exact base_1 mo da kk off sh fr to y 0 0 v b.1 b.2 d1 d2 q1 q2 c.1 c.2 g' w hL
    · rw [show Rul.baK 2 mo da kk off y = Rul.lastD y mo da from rfl]
      have v := Rul.may_len y1 y2 m1 m2
      have b := (Cal.day_mk v).bd
      have c := Cal.wd_bd (Cal.num y mo (Cal.len y mo))
      obtain ⟨k, _, _, _, e, m⟩ := Rul.last_day (da := da) y1 y2 m1 m2
      rw [show Rul.pos (Rul.lastD y mo da) = ((0 : Int) == 0) by rw [Rul.pos_yes (by rw [e]; have := (Cal.day_mk m).bd; omega)]; rfl]
      exact base_2 mo da kk off sh fr to y 0 0 v b.1 b.2 d1 d2 c.1 c.2 g' w hL
    · rw [show Rul.baK 3 mo da kk off y = Rul.dayV (easV y + off) from rfl, ← dayE_pos]
      obtain ⟨e1, e2⟩ := eas_in y1 y2
      have r := Eas.range y
      have a := (Cal.day_mk (Eas.may_march y1 y2 22 (by omega) (by omega))).bd
      have b := (Cal.day_mk (Eas.may_april y1 y2 25 (by omega) (by omega))).bd
      exact base_3 mo da kk off sh fr to y 0 0 y1 y2 o1 o2 (by rw [e1]; omega) (by rw [e1]; omega) e2 g' w hL
  · rw [Rul.ba_out (by omega)]
    exact base_out kd mo da kk off sh fr to y (Rul.wi_no (by omega)) w
end Go.Proofs.YtlilffoflkkbdaaDoor
