/- The contracts of the layer of rules, sixth part: a rule's day of a year, shifted or not, by the program and by the document. Conditions: the table of months' lengths lies as the program's text lays it. -/
import Derived.Test.YtlilffoflkkbdaaDoorRulD
import Derived.Test.YtlilffoflkkbdaaDoorRulE
namespace Go.Proofs.YtlilffoflkkbdaaDoor
open Go.RowKit
set_option linter.unusedVariables false

theorem wd_at (f da : Int) (d1 : 0 ≤ da) (d2 : da ≤ 6) (i : Int) : Cal.wd (f + i - 1) = da ↔ (i - 1 - (da - Cal.wd f) % 7) % 7 = 0 := by
  unfold Cal.wd; omega
theorem rruleBase_c (kd mo da kk off sh fr to y : Int) (hm : Rul.mayP kd mo da kk off sh fr to) (w : World) : Calls Tryd.prog 82 #[.agg #[.int .i64 kd, .int .i64 mo, .int .i64 da, .int .i64 kk, .int .i64 off, .int .i64 sh, .int .i64 fr, .int .i64 to], .int .i64 y] w fun e w' => e = .returned (.tuple #[.int .i64 (Rul.ba kd mo da kk off fr to y), .bool (Rul.pos (Rul.ba kd mo da kk off fr to y))]) ∧ Below w.heap.size w w' := by
  by_cases g1 : y < fr
  · rw [Rul.ba_out (Or.inl g1)]; exact rbase_lo kd mo da kk off sh fr to y g1 w
  by_cases g2 : to < y
  · rw [Rul.ba_out (Or.inr g2)]; exact rbase_hi kd mo da kk off sh fr to y g1 g2 w
  obtain ⟨s1, s2, a1, a2, a3, h⟩ := hm
  have y1 : 1 ≤ y := by omega
  have y2 : y ≤ 9999 := by omega
  rw [Rul.ba_in (by omega) (by omega)]
  rcases h with ⟨rfl, m1, m2, d1, d2⟩ | ⟨rfl, q1, q2, m1, m2, d1, d2⟩ | ⟨rfl, m1, m2, d1, d2⟩ | ⟨rfl, o1, o2⟩
  · have v := Rul.may_one y1 y2 m1 m2
    have b := (Cal.day_mk v).bd
    have l := Cal.len_bd y mo m1 m2
    refine rbase_0 0 mo da kk off sh fr to y _ (Rul.baK 0 mo da kk off y) _ 0 g1 g2 rfl (numV_yes v).1 l.1 l.2 b.1 b.2 d1 ?_ w
    show _ = numV y mo da
    have e := Rul.num_sub y mo da 1
    by_cases c : da < Cal.len y mo + 1
    · rw [if_pos c, (numV_yes ((Cal.mayB_iff _ _ _).2 ⟨y1, y2, d1, by omega⟩)).1]; omega
    · rw [if_neg c, (numV_no (mayB_ff (by omega))).1]
  · have v := Rul.may_one y1 y2 m1 m2
    have b := (Cal.day_mk v).bd
    have l := Cal.len_bd y mo m1 m2
    refine rbase_1 1 mo da kk off sh fr to y _ (Rul.baK 1 mo da kk off y) _ ((da - Cal.wd (Cal.num y mo 1)) % 7) g1 g2 rfl (numV_yes v).1 l.1 l.2 b.1 b.2 (by omega) (by omega) (fun i => wd_at _ _ d1 d2 i) ?_ q1 q2 w
    show _ = numV y mo (Rul.nthD y mo da kk)
    have e := Rul.num_sub y mo (Rul.nthD y mo da kk) 1
    have en : Rul.nthD y mo da kk = (da - Cal.wd (Cal.num y mo 1)) % 7 + 7 * (kk - 1) + 1 := rfl
    by_cases c : Rul.nthD y mo da kk ≤ Cal.len y mo
    · rw [if_neg (by omega), (numV_yes ((Cal.mayB_iff _ _ _).2 ⟨y1, y2, by omega, c⟩)).1]; omega
    · rw [if_pos (by omega), (numV_no (mayB_ff (by omega))).1]
  · have v := Rul.may_one y1 y2 m1 m2
    have b := (Cal.day_mk v).bd
    have l := Cal.len_bd y mo m1 m2
    refine rbase_2 2 mo da kk off sh fr to y _ (Rul.baK 2 mo da kk off y) _ ((da - Cal.wd (Cal.num y mo 1)) % 7) g1 g2 rfl (numV_yes v).1 l.1 l.2 b.1 b.2 (by omega) (by omega) (fun i => wd_at _ _ d1 d2 i) ?_ w
    show _ = Rul.lastD y mo da
    have e := Rul.num_sub y mo (Cal.len y mo) 1
    rw [if_neg (by omega)]
    unfold Rul.lastD; rw [e]
    generalize Cal.num y mo 1 = f
    generalize Cal.len y mo = n at l
    unfold Cal.wd; omega
  · obtain ⟨e1, e2⟩ := eas_in y1 y2
    have r := Eas.range y
    have a := (Cal.day_mk (Eas.may_march y1 y2 22 (by omega) (by omega))).bd
    have b := (Cal.day_mk (Eas.may_april y1 y2 25 (by omega) (by omega))).bd
    have v1 : 1 ≤ easV y := by rw [e1]; omega
    have v2 : easV y ≤ 3652059 := by rw [e1]; omega
    rw [show Rul.baK 3 mo da kk off y = Rul.dayV (easV y + off) from rfl]
    by_cases c1 : easV y + off < 1
    · rw [Rul.dayV_out (Or.inl c1)]; exact rbase_3lo 3 mo da kk off sh fr to y g1 g2 o1 o2 v1 v2 c1 w
    by_cases c2 : 3652059 < easV y + off
    · rw [Rul.dayV_out (Or.inr c2)]; exact rbase_3hi 3 mo da kk off sh fr to y g1 g2 o1 o2 v1 v2 c1 c2 w
    rw [Rul.dayV_in (by omega) (by omega), Rul.pos_yes (by omega)]
    exact rbase_3in 3 mo da kk off sh fr to y g1 g2 o1 o2 v1 v2 c1 c2 w

set_option maxHeartbeats 1000000 in
theorem in_none (kd mo da kk off sh fr to y b : Int) (hm : Hid (Rul.mayP kd mo da kk off sh fr to)) (hb : Rul.ba kd mo da kk off fr to y = b) (p : Rul.pos b = false) (w : World) (hL : Laid w) : Calls Tryd.prog 77 #[.agg #[.int .i64 kd, .int .i64 mo, .int .i64 da, .int .i64 kk, .int .i64 off, .int .i64 sh, .int .i64 fr, .int .i64 to], .int .i64 y] w fun e w' => e = .returned (.tuple #[.int .i64 0, .bool false]) ∧ Below w.heap.size w w' := by
  have hB : Below w.heap.size w w := Below.refl _ _
  go_enter Tryd.func77, Tryd.ntmps77
  go_wp2_with fail
  refine (ruleBase_c _ _ _ _ _ _ _ _ _ hm.out _ (hL.below (by repeat (first | assumption | exact Below.refl _ _ | (with_reducible refine Below.drew ?_) | (with_reducible refine below_drewN' ?_ _) | (with_reducible refine below_al ?_) | ((with_reducible refine below_set ?_ ?_); rotate_left; focus (first | (simp; done) | (simp; omega))))))).mono ?_; rintro e w1 ⟨rfl, hb1⟩
  have hz1 := hb1.size; (try simp at hz1); obtain ⟨hc1, hf1⟩ := bcell hb1; have hB1 := below_step (w := w) hb1 (by repeat (first | assumption | exact Below.refl _ _ | (with_reducible refine Below.drew ?_) | (with_reducible refine below_drewN' ?_ _) | (with_reducible refine below_al ?_) | ((with_reducible refine below_set ?_ ?_); rotate_left; focus (first | (simp; done) | (simp; omega)))))
  have le_w_w1 : w.heap.size ≤ w1.heap.size := by omega
  try have lt_w_w1 : w.heap.size < w1.heap.size := by omega
  go_wp2_with fail
  go_ret2
  exact ⟨rfl, by repeat (first | assumption | exact Below.refl _ _ | (with_reducible refine Below.drew ?_) | (with_reducible refine below_drewN' ?_ _) | (with_reducible refine below_al ?_) | ((with_reducible refine below_set ?_ ?_); rotate_left; focus (first | (simp; done) | (simp; omega))))⟩
set_option maxHeartbeats 1000000 in
theorem rin_none (kd mo da kk off sh fr to y b : Int) (hm : Hid (Rul.mayP kd mo da kk off sh fr to)) (hb : Rul.ba kd mo da kk off fr to y = b) (p : Rul.pos b = false) (w : World) : Calls Tryd.prog 68 #[.agg #[.int .i64 kd, .int .i64 mo, .int .i64 da, .int .i64 kk, .int .i64 off, .int .i64 sh, .int .i64 fr, .int .i64 to], .int .i64 y] w fun e w' => e = .returned (.tuple #[.int .i64 0, .bool false]) ∧ Below w.heap.size w w' := by
  have hB : Below w.heap.size w w := Below.refl _ _
  go_enter Tryd.func68, Tryd.ntmps68
  go_wp2_with fail
  refine (rruleBase_c _ _ _ _ _ _ _ _ _ hm.out _).mono ?_; rintro e w1 ⟨rfl, hb1⟩
  have hz1 := hb1.size; (try simp at hz1); obtain ⟨hc1, hf1⟩ := bcell hb1; have hB1 := below_step (w := w) hb1 (by repeat (first | assumption | exact Below.refl _ _ | (with_reducible refine Below.drew ?_) | (with_reducible refine below_drewN' ?_ _) | (with_reducible refine below_al ?_) | ((with_reducible refine below_set ?_ ?_); rotate_left; focus (first | (simp; done) | (simp; omega)))))
  have le_w_w1 : w.heap.size ≤ w1.heap.size := by omega
  try have lt_w_w1 : w.heap.size < w1.heap.size := by omega
  go_wp2_with fail
  go_ret2
  exact ⟨rfl, by repeat (first | assumption | exact Below.refl _ _ | (with_reducible refine Below.drew ?_) | (with_reducible refine below_drewN' ?_ _) | (with_reducible refine below_al ?_) | ((with_reducible refine below_set ?_ ?_); rotate_left; focus (first | (simp; done) | (simp; omega))))⟩
set_option maxHeartbeats 1000000 in
theorem in_0 (kd mo da kk off sh fr to y b : Int) (hm : Hid (Rul.mayP kd mo da kk off 0 fr to)) (hb : Rul.ba kd mo da kk off fr to y = b) (p : Rul.pos b = true) (b1 : 1 ≤ b) (b2 : b ≤ 3652059)  (w : World) (hL : Laid w) : Calls Tryd.prog 77 #[.agg #[.int .i64 kd, .int .i64 mo, .int .i64 da, .int .i64 kk, .int .i64 off, .int .i64 0, .int .i64 fr, .int .i64 to], .int .i64 y] w fun e w' => e = .returned (.tuple #[.int .i64 (Rul.dayV (b)), .bool (dayE (b) == 0)]) ∧ Below w.heap.size w w' := by
  have hB : Below w.heap.size w w := Below.refl _ _
  go_enter Tryd.func77, Tryd.ntmps77
  go_wp2_with fail
  refine (ruleBase_c _ _ _ _ _ _ _ _ _ hm.out _ (hL.below (by repeat (first | assumption | exact Below.refl _ _ | (with_reducible refine Below.drew ?_) | (with_reducible refine below_drewN' ?_ _) | (with_reducible refine below_al ?_) | ((with_reducible refine below_set ?_ ?_); rotate_left; focus (first | (simp; done) | (simp; omega))))))).mono ?_; rintro e w1 ⟨rfl, hb1⟩
  have hz1 := hb1.size; (try simp at hz1); obtain ⟨hc1, hf1⟩ := bcell hb1; have hB1 := below_step (w := w) hb1 (by repeat (first | assumption | exact Below.refl _ _ | (with_reducible refine Below.drew ?_) | (with_reducible refine below_drewN' ?_ _) | (with_reducible refine below_al ?_) | ((with_reducible refine below_set ?_ ?_); rotate_left; focus (first | (simp; done) | (simp; omega)))))
  have le_w_w1 : w.heap.size ≤ w1.heap.size := by omega
  try have lt_w_w1 : w.heap.size < w1.heap.size := by omega
  go_wp2_with fail
  refine (wd_c _ _).mono ?_; rintro e w' ⟨rfl, rfl⟩
  go_wp2_with fail
  refine (ruleDay_c _ _).mono ?_; rintro e w' ⟨rfl, rfl⟩
  go_wp2_with fail
  go_ret2
  exact ⟨rfl, by repeat (first | assumption | exact Below.refl _ _ | (with_reducible refine Below.drew ?_) | (with_reducible refine below_drewN' ?_ _) | (with_reducible refine below_al ?_) | ((with_reducible refine below_set ?_ ?_); rotate_left; focus (first | (simp; done) | (simp; omega))))⟩
set_option maxHeartbeats 1000000 in
theorem rin_0 (kd mo da kk off sh fr to y b : Int) (hm : Hid (Rul.mayP kd mo da kk off 0 fr to)) (hb : Rul.ba kd mo da kk off fr to y = b) (p : Rul.pos b = true) (b1 : 1 ≤ b) (b2 : b ≤ 3652059)  (w : World) : Calls Tryd.prog 68 #[.agg #[.int .i64 kd, .int .i64 mo, .int .i64 da, .int .i64 kk, .int .i64 off, .int .i64 0, .int .i64 fr, .int .i64 to], .int .i64 y] w fun e w' => e = .returned (.tuple #[.int .i64 (b), .bool true]) ∧ Below w.heap.size w w' := by
  have hB : Below w.heap.size w w := Below.refl _ _
  go_enter Tryd.func68, Tryd.ntmps68
  go_wp2_with fail
  refine (rruleBase_c _ _ _ _ _ _ _ _ _ hm.out _).mono ?_; rintro e w1 ⟨rfl, hb1⟩
  have hz1 := hb1.size; (try simp at hz1); obtain ⟨hc1, hf1⟩ := bcell hb1; have hB1 := below_step (w := w) hb1 (by repeat (first | assumption | exact Below.refl _ _ | (with_reducible refine Below.drew ?_) | (with_reducible refine below_drewN' ?_ _) | (with_reducible refine below_al ?_) | ((with_reducible refine below_set ?_ ?_); rotate_left; focus (first | (simp; done) | (simp; omega)))))
  have le_w_w1 : w.heap.size ≤ w1.heap.size := by omega
  try have lt_w_w1 : w.heap.size < w1.heap.size := by omega
  go_wp2_with fail
  refine (rwd_c _ _).mono ?_; rintro e w' ⟨rfl, rfl⟩
  go_wp2_with fail
  go_ret2
  exact ⟨rfl, by repeat (first | assumption | exact Below.refl _ _ | (with_reducible refine Below.drew ?_) | (with_reducible refine below_drewN' ?_ _) | (with_reducible refine below_al ?_) | ((with_reducible refine below_set ?_ ?_); rotate_left; focus (first | (simp; done) | (simp; omega))))⟩
set_option maxHeartbeats 1000000 in
theorem in_15 (kd mo da kk off sh fr to y b : Int) (hm : Hid (Rul.mayP kd mo da kk off 1 fr to)) (hb : Rul.ba kd mo da kk off fr to y = b) (p : Rul.pos b = true) (b1 : 1 ≤ b) (b2 : b ≤ 3652059) (w5 : Cal.wd b = 5) (w : World) (hL : Laid w) : Calls Tryd.prog 77 #[.agg #[.int .i64 kd, .int .i64 mo, .int .i64 da, .int .i64 kk, .int .i64 off, .int .i64 1, .int .i64 fr, .int .i64 to], .int .i64 y] w fun e w' => e = .returned (.tuple #[.int .i64 (Rul.dayV (b - 1)), .bool (dayE (b - 1) == 0)]) ∧ Below w.heap.size w w' := by
  have hB : Below w.heap.size w w := Below.refl _ _
  go_enter Tryd.func77, Tryd.ntmps77
  go_wp2_with fail
  refine (ruleBase_c _ _ _ _ _ _ _ _ _ hm.out _ (hL.below (by repeat (first | assumption | exact Below.refl _ _ | (with_reducible refine Below.drew ?_) | (with_reducible refine below_drewN' ?_ _) | (with_reducible refine below_al ?_) | ((with_reducible refine below_set ?_ ?_); rotate_left; focus (first | (simp; done) | (simp; omega))))))).mono ?_; rintro e w1 ⟨rfl, hb1⟩
  have hz1 := hb1.size; (try simp at hz1); obtain ⟨hc1, hf1⟩ := bcell hb1; have hB1 := below_step (w := w) hb1 (by repeat (first | assumption | exact Below.refl _ _ | (with_reducible refine Below.drew ?_) | (with_reducible refine below_drewN' ?_ _) | (with_reducible refine below_al ?_) | ((with_reducible refine below_set ?_ ?_); rotate_left; focus (first | (simp; done) | (simp; omega)))))
  have le_w_w1 : w.heap.size ≤ w1.heap.size := by omega
  try have lt_w_w1 : w.heap.size < w1.heap.size := by omega
  go_wp2_with fail
  refine (wd_c _ _).mono ?_; rintro e w' ⟨rfl, rfl⟩
  go_wp2_with fail
  refine (ruleDay_c _ _).mono ?_; rintro e w' ⟨rfl, rfl⟩
  go_wp2_with fail
  go_ret2
  exact ⟨rfl, by repeat (first | assumption | exact Below.refl _ _ | (with_reducible refine Below.drew ?_) | (with_reducible refine below_drewN' ?_ _) | (with_reducible refine below_al ?_) | ((with_reducible refine below_set ?_ ?_); rotate_left; focus (first | (simp; done) | (simp; omega))))⟩
set_option maxHeartbeats 1000000 in
theorem rin_15 (kd mo da kk off sh fr to y b : Int) (hm : Hid (Rul.mayP kd mo da kk off 1 fr to)) (hb : Rul.ba kd mo da kk off fr to y = b) (p : Rul.pos b = true) (b1 : 1 ≤ b) (b2 : b ≤ 3652059) (w5 : Cal.wd b = 5) (r1 : 1 ≤ b - 1) (r2 : b - 1 ≤ 3652059) (w : World) : Calls Tryd.prog 68 #[.agg #[.int .i64 kd, .int .i64 mo, .int .i64 da, .int .i64 kk, .int .i64 off, .int .i64 1, .int .i64 fr, .int .i64 to], .int .i64 y] w fun e w' => e = .returned (.tuple #[.int .i64 (b - 1), .bool true]) ∧ Below w.heap.size w w' := by
  have hB : Below w.heap.size w w := Below.refl _ _
  go_enter Tryd.func68, Tryd.ntmps68
  go_wp2_with fail
  refine (rruleBase_c _ _ _ _ _ _ _ _ _ hm.out _).mono ?_; rintro e w1 ⟨rfl, hb1⟩
  have hz1 := hb1.size; (try simp at hz1); obtain ⟨hc1, hf1⟩ := bcell hb1; have hB1 := below_step (w := w) hb1 (by repeat (first | assumption | exact Below.refl _ _ | (with_reducible refine Below.drew ?_) | (with_reducible refine below_drewN' ?_ _) | (with_reducible refine below_al ?_) | ((with_reducible refine below_set ?_ ?_); rotate_left; focus (first | (simp; done) | (simp; omega)))))
  have le_w_w1 : w.heap.size ≤ w1.heap.size := by omega
  try have lt_w_w1 : w.heap.size < w1.heap.size := by omega
  go_wp2_with fail
  refine (rwd_c _ _).mono ?_; rintro e w' ⟨rfl, rfl⟩
  go_wp2_with fail
  go_ret2
  exact ⟨rfl, by repeat (first | assumption | exact Below.refl _ _ | (with_reducible refine Below.drew ?_) | (with_reducible refine below_drewN' ?_ _) | (with_reducible refine below_al ?_) | ((with_reducible refine below_set ?_ ?_); rotate_left; focus (first | (simp; done) | (simp; omega))))⟩
set_option maxHeartbeats 1000000 in
theorem rin_15x (kd mo da kk off sh fr to y b : Int) (hm : Hid (Rul.mayP kd mo da kk off 1 fr to)) (hb : Rul.ba kd mo da kk off fr to y = b) (p : Rul.pos b = true) (b1 : 1 ≤ b) (b2 : b ≤ 3652059) (w5 : Cal.wd b = 5) (r1 : b - 1 < 1) (w : World) : Calls Tryd.prog 68 #[.agg #[.int .i64 kd, .int .i64 mo, .int .i64 da, .int .i64 kk, .int .i64 off, .int .i64 1, .int .i64 fr, .int .i64 to], .int .i64 y] w fun e w' => e = .returned (.tuple #[.int .i64 0, .bool false]) ∧ Below w.heap.size w w' := by
  have hB : Below w.heap.size w w := Below.refl _ _
  go_enter Tryd.func68, Tryd.ntmps68
  go_wp2_with fail
  refine (rruleBase_c _ _ _ _ _ _ _ _ _ hm.out _).mono ?_; rintro e w1 ⟨rfl, hb1⟩
  have hz1 := hb1.size; (try simp at hz1); obtain ⟨hc1, hf1⟩ := bcell hb1; have hB1 := below_step (w := w) hb1 (by repeat (first | assumption | exact Below.refl _ _ | (with_reducible refine Below.drew ?_) | (with_reducible refine below_drewN' ?_ _) | (with_reducible refine below_al ?_) | ((with_reducible refine below_set ?_ ?_); rotate_left; focus (first | (simp; done) | (simp; omega)))))
  have le_w_w1 : w.heap.size ≤ w1.heap.size := by omega
  try have lt_w_w1 : w.heap.size < w1.heap.size := by omega
  go_wp2_with fail
  refine (rwd_c _ _).mono ?_; rintro e w' ⟨rfl, rfl⟩
  go_wp2_with fail
  go_ret2
  exact ⟨rfl, by repeat (first | assumption | exact Below.refl _ _ | (with_reducible refine Below.drew ?_) | (with_reducible refine below_drewN' ?_ _) | (with_reducible refine below_al ?_) | ((with_reducible refine below_set ?_ ?_); rotate_left; focus (first | (simp; done) | (simp; omega))))⟩
set_option maxHeartbeats 1000000 in
theorem in_16 (kd mo da kk off sh fr to y b : Int) (hm : Hid (Rul.mayP kd mo da kk off 1 fr to)) (hb : Rul.ba kd mo da kk off fr to y = b) (p : Rul.pos b = true) (b1 : 1 ≤ b) (b2 : b ≤ 3652059) (w6 : Cal.wd b = 6) (w : World) (hL : Laid w) : Calls Tryd.prog 77 #[.agg #[.int .i64 kd, .int .i64 mo, .int .i64 da, .int .i64 kk, .int .i64 off, .int .i64 1, .int .i64 fr, .int .i64 to], .int .i64 y] w fun e w' => e = .returned (.tuple #[.int .i64 (Rul.dayV (b + 1)), .bool (dayE (b + 1) == 0)]) ∧ Below w.heap.size w w' := by
  have hB : Below w.heap.size w w := Below.refl _ _
  go_enter Tryd.func77, Tryd.ntmps77
  go_wp2_with fail
  refine (ruleBase_c _ _ _ _ _ _ _ _ _ hm.out _ (hL.below (by repeat (first | assumption | exact Below.refl _ _ | (with_reducible refine Below.drew ?_) | (with_reducible refine below_drewN' ?_ _) | (with_reducible refine below_al ?_) | ((with_reducible refine below_set ?_ ?_); rotate_left; focus (first | (simp; done) | (simp; omega))))))).mono ?_; rintro e w1 ⟨rfl, hb1⟩
  have hz1 := hb1.size; (try simp at hz1); obtain ⟨hc1, hf1⟩ := bcell hb1; have hB1 := below_step (w := w) hb1 (by repeat (first | assumption | exact Below.refl _ _ | (with_reducible refine Below.drew ?_) | (with_reducible refine below_drewN' ?_ _) | (with_reducible refine below_al ?_) | ((with_reducible refine below_set ?_ ?_); rotate_left; focus (first | (simp; done) | (simp; omega)))))
  have le_w_w1 : w.heap.size ≤ w1.heap.size := by omega
  try have lt_w_w1 : w.heap.size < w1.heap.size := by omega
  go_wp2_with fail
  refine (wd_c _ _).mono ?_; rintro e w' ⟨rfl, rfl⟩
  go_wp2_with fail
  refine (ruleDay_c _ _).mono ?_; rintro e w' ⟨rfl, rfl⟩
  go_wp2_with fail
  go_ret2
  exact ⟨rfl, by repeat (first | assumption | exact Below.refl _ _ | (with_reducible refine Below.drew ?_) | (with_reducible refine below_drewN' ?_ _) | (with_reducible refine below_al ?_) | ((with_reducible refine below_set ?_ ?_); rotate_left; focus (first | (simp; done) | (simp; omega))))⟩
set_option maxHeartbeats 1000000 in
theorem rin_16 (kd mo da kk off sh fr to y b : Int) (hm : Hid (Rul.mayP kd mo da kk off 1 fr to)) (hb : Rul.ba kd mo da kk off fr to y = b) (p : Rul.pos b = true) (b1 : 1 ≤ b) (b2 : b ≤ 3652059) (w6 : Cal.wd b = 6) (r1 : 1 ≤ b + 1) (r2 : b + 1 ≤ 3652059) (w : World) : Calls Tryd.prog 68 #[.agg #[.int .i64 kd, .int .i64 mo, .int .i64 da, .int .i64 kk, .int .i64 off, .int .i64 1, .int .i64 fr, .int .i64 to], .int .i64 y] w fun e w' => e = .returned (.tuple #[.int .i64 (b + 1), .bool true]) ∧ Below w.heap.size w w' := by
  have hB : Below w.heap.size w w := Below.refl _ _
  go_enter Tryd.func68, Tryd.ntmps68
  go_wp2_with fail
  refine (rruleBase_c _ _ _ _ _ _ _ _ _ hm.out _).mono ?_; rintro e w1 ⟨rfl, hb1⟩
  have hz1 := hb1.size; (try simp at hz1); obtain ⟨hc1, hf1⟩ := bcell hb1; have hB1 := below_step (w := w) hb1 (by repeat (first | assumption | exact Below.refl _ _ | (with_reducible refine Below.drew ?_) | (with_reducible refine below_drewN' ?_ _) | (with_reducible refine below_al ?_) | ((with_reducible refine below_set ?_ ?_); rotate_left; focus (first | (simp; done) | (simp; omega)))))
  have le_w_w1 : w.heap.size ≤ w1.heap.size := by omega
  try have lt_w_w1 : w.heap.size < w1.heap.size := by omega
  go_wp2_with fail
  refine (rwd_c _ _).mono ?_; rintro e w' ⟨rfl, rfl⟩
  go_wp2_with fail
  go_ret2
  exact ⟨rfl, by repeat (first | assumption | exact Below.refl _ _ | (with_reducible refine Below.drew ?_) | (with_reducible refine below_drewN' ?_ _) | (with_reducible refine below_al ?_) | ((with_reducible refine below_set ?_ ?_); rotate_left; focus (first | (simp; done) | (simp; omega))))⟩
set_option maxHeartbeats 1000000 in
theorem rin_16x (kd mo da kk off sh fr to y b : Int) (hm : Hid (Rul.mayP kd mo da kk off 1 fr to)) (hb : Rul.ba kd mo da kk off fr to y = b) (p : Rul.pos b = true) (b1 : 1 ≤ b) (b2 : b ≤ 3652059) (w6 : Cal.wd b = 6) (r2 : 3652059 < b + 1) (w : World) : Calls Tryd.prog 68 #[.agg #[.int .i64 kd, .int .i64 mo, .int .i64 da, .int .i64 kk, .int .i64 off, .int .i64 1, .int .i64 fr, .int .i64 to], .int .i64 y] w fun e w' => e = .returned (.tuple #[.int .i64 0, .bool false]) ∧ Below w.heap.size w w' := by
  have hB : Below w.heap.size w w := Below.refl _ _
  go_enter Tryd.func68, Tryd.ntmps68
  go_wp2_with fail
  refine (rruleBase_c _ _ _ _ _ _ _ _ _ hm.out _).mono ?_; rintro e w1 ⟨rfl, hb1⟩
  have hz1 := hb1.size; (try simp at hz1); obtain ⟨hc1, hf1⟩ := bcell hb1; have hB1 := below_step (w := w) hb1 (by repeat (first | assumption | exact Below.refl _ _ | (with_reducible refine Below.drew ?_) | (with_reducible refine below_drewN' ?_ _) | (with_reducible refine below_al ?_) | ((with_reducible refine below_set ?_ ?_); rotate_left; focus (first | (simp; done) | (simp; omega)))))
  have le_w_w1 : w.heap.size ≤ w1.heap.size := by omega
  try have lt_w_w1 : w.heap.size < w1.heap.size := by omega
  go_wp2_with fail
  refine (rwd_c _ _).mono ?_; rintro e w' ⟨rfl, rfl⟩
  go_wp2_with fail
  go_ret2
  exact ⟨rfl, by repeat (first | assumption | exact Below.refl _ _ | (with_reducible refine Below.drew ?_) | (with_reducible refine below_drewN' ?_ _) | (with_reducible refine below_al ?_) | ((with_reducible refine below_set ?_ ?_); rotate_left; focus (first | (simp; done) | (simp; omega))))⟩
set_option maxHeartbeats 1000000 in
theorem in_10 (kd mo da kk off sh fr to y b : Int) (hm : Hid (Rul.mayP kd mo da kk off 1 fr to)) (hb : Rul.ba kd mo da kk off fr to y = b) (p : Rul.pos b = true) (b1 : 1 ≤ b) (b2 : b ≤ 3652059) (w5 : (Cal.wd b == 5) = false) (w6 : (Cal.wd b == 6) = false) (w : World) (hL : Laid w) : Calls Tryd.prog 77 #[.agg #[.int .i64 kd, .int .i64 mo, .int .i64 da, .int .i64 kk, .int .i64 off, .int .i64 1, .int .i64 fr, .int .i64 to], .int .i64 y] w fun e w' => e = .returned (.tuple #[.int .i64 (Rul.dayV (b)), .bool (dayE (b) == 0)]) ∧ Below w.heap.size w w' := by
  have hB : Below w.heap.size w w := Below.refl _ _
  go_enter Tryd.func77, Tryd.ntmps77
  go_wp2_with fail
  refine (ruleBase_c _ _ _ _ _ _ _ _ _ hm.out _ (hL.below (by repeat (first | assumption | exact Below.refl _ _ | (with_reducible refine Below.drew ?_) | (with_reducible refine below_drewN' ?_ _) | (with_reducible refine below_al ?_) | ((with_reducible refine below_set ?_ ?_); rotate_left; focus (first | (simp; done) | (simp; omega))))))).mono ?_; rintro e w1 ⟨rfl, hb1⟩
  have hz1 := hb1.size; (try simp at hz1); obtain ⟨hc1, hf1⟩ := bcell hb1; have hB1 := below_step (w := w) hb1 (by repeat (first | assumption | exact Below.refl _ _ | (with_reducible refine Below.drew ?_) | (with_reducible refine below_drewN' ?_ _) | (with_reducible refine below_al ?_) | ((with_reducible refine below_set ?_ ?_); rotate_left; focus (first | (simp; done) | (simp; omega)))))
  have le_w_w1 : w.heap.size ≤ w1.heap.size := by omega
  try have lt_w_w1 : w.heap.size < w1.heap.size := by omega
  go_wp2_with fail
  refine (wd_c _ _).mono ?_; rintro e w' ⟨rfl, rfl⟩
  go_wp2_with fail
  refine (ruleDay_c _ _).mono ?_; rintro e w' ⟨rfl, rfl⟩
  go_wp2_with fail
  go_ret2
  exact ⟨rfl, by repeat (first | assumption | exact Below.refl _ _ | (with_reducible refine Below.drew ?_) | (with_reducible refine below_drewN' ?_ _) | (with_reducible refine below_al ?_) | ((with_reducible refine below_set ?_ ?_); rotate_left; focus (first | (simp; done) | (simp; omega))))⟩
set_option maxHeartbeats 1000000 in
theorem rin_10 (kd mo da kk off sh fr to y b : Int) (hm : Hid (Rul.mayP kd mo da kk off 1 fr to)) (hb : Rul.ba kd mo da kk off fr to y = b) (p : Rul.pos b = true) (b1 : 1 ≤ b) (b2 : b ≤ 3652059) (w5 : (Cal.wd b == 5) = false) (w6 : (Cal.wd b == 6) = false) (w : World) : Calls Tryd.prog 68 #[.agg #[.int .i64 kd, .int .i64 mo, .int .i64 da, .int .i64 kk, .int .i64 off, .int .i64 1, .int .i64 fr, .int .i64 to], .int .i64 y] w fun e w' => e = .returned (.tuple #[.int .i64 (b), .bool true]) ∧ Below w.heap.size w w' := by
  have hB : Below w.heap.size w w := Below.refl _ _
  go_enter Tryd.func68, Tryd.ntmps68
  go_wp2_with fail
  refine (rruleBase_c _ _ _ _ _ _ _ _ _ hm.out _).mono ?_; rintro e w1 ⟨rfl, hb1⟩
  have hz1 := hb1.size; (try simp at hz1); obtain ⟨hc1, hf1⟩ := bcell hb1; have hB1 := below_step (w := w) hb1 (by repeat (first | assumption | exact Below.refl _ _ | (with_reducible refine Below.drew ?_) | (with_reducible refine below_drewN' ?_ _) | (with_reducible refine below_al ?_) | ((with_reducible refine below_set ?_ ?_); rotate_left; focus (first | (simp; done) | (simp; omega)))))
  have le_w_w1 : w.heap.size ≤ w1.heap.size := by omega
  try have lt_w_w1 : w.heap.size < w1.heap.size := by omega
  go_wp2_with fail
  refine (rwd_c _ _).mono ?_; rintro e w' ⟨rfl, rfl⟩
  go_wp2_with fail
  go_ret2
  exact ⟨rfl, by repeat (first | assumption | exact Below.refl _ _ | (with_reducible refine Below.drew ?_) | (with_reducible refine below_drewN' ?_ _) | (with_reducible refine below_al ?_) | ((with_reducible refine below_set ?_ ?_); rotate_left; focus (first | (simp; done) | (simp; omega))))⟩
set_option maxHeartbeats 1000000 in
theorem in_25 (kd mo da kk off sh fr to y b : Int) (hm : Hid (Rul.mayP kd mo da kk off 2 fr to)) (hb : Rul.ba kd mo da kk off fr to y = b) (p : Rul.pos b = true) (b1 : 1 ≤ b) (b2 : b ≤ 3652059) (w5 : Cal.wd b = 5) (w : World) (hL : Laid w) : Calls Tryd.prog 77 #[.agg #[.int .i64 kd, .int .i64 mo, .int .i64 da, .int .i64 kk, .int .i64 off, .int .i64 2, .int .i64 fr, .int .i64 to], .int .i64 y] w fun e w' => e = .returned (.tuple #[.int .i64 (Rul.dayV (b + 1 + 1)), .bool (dayE (b + 1 + 1) == 0)]) ∧ Below w.heap.size w w' := by
  have hB : Below w.heap.size w w := Below.refl _ _
  go_enter Tryd.func77, Tryd.ntmps77
  go_wp2_with fail
  refine (ruleBase_c _ _ _ _ _ _ _ _ _ hm.out _ (hL.below (by repeat (first | assumption | exact Below.refl _ _ | (with_reducible refine Below.drew ?_) | (with_reducible refine below_drewN' ?_ _) | (with_reducible refine below_al ?_) | ((with_reducible refine below_set ?_ ?_); rotate_left; focus (first | (simp; done) | (simp; omega))))))).mono ?_; rintro e w1 ⟨rfl, hb1⟩
  have hz1 := hb1.size; (try simp at hz1); obtain ⟨hc1, hf1⟩ := bcell hb1; have hB1 := below_step (w := w) hb1 (by repeat (first | assumption | exact Below.refl _ _ | (with_reducible refine Below.drew ?_) | (with_reducible refine below_drewN' ?_ _) | (with_reducible refine below_al ?_) | ((with_reducible refine below_set ?_ ?_); rotate_left; focus (first | (simp; done) | (simp; omega)))))
  have le_w_w1 : w.heap.size ≤ w1.heap.size := by omega
  try have lt_w_w1 : w.heap.size < w1.heap.size := by omega
  go_wp2_with fail
  refine (wd_c _ _).mono ?_; rintro e w' ⟨rfl, rfl⟩
  go_wp2_with fail
  refine (ruleDay_c _ _).mono ?_; rintro e w' ⟨rfl, rfl⟩
  go_wp2_with fail
  go_ret2
  exact ⟨rfl, by repeat (first | assumption | exact Below.refl _ _ | (with_reducible refine Below.drew ?_) | (with_reducible refine below_drewN' ?_ _) | (with_reducible refine below_al ?_) | ((with_reducible refine below_set ?_ ?_); rotate_left; focus (first | (simp; done) | (simp; omega))))⟩
set_option maxHeartbeats 1000000 in
theorem rin_25 (kd mo da kk off sh fr to y b : Int) (hm : Hid (Rul.mayP kd mo da kk off 2 fr to)) (hb : Rul.ba kd mo da kk off fr to y = b) (p : Rul.pos b = true) (b1 : 1 ≤ b) (b2 : b ≤ 3652059) (w5 : Cal.wd b = 5) (r1 : 1 ≤ b + 2) (r2 : b + 2 ≤ 3652059) (w : World) : Calls Tryd.prog 68 #[.agg #[.int .i64 kd, .int .i64 mo, .int .i64 da, .int .i64 kk, .int .i64 off, .int .i64 2, .int .i64 fr, .int .i64 to], .int .i64 y] w fun e w' => e = .returned (.tuple #[.int .i64 (b + 2), .bool true]) ∧ Below w.heap.size w w' := by
  have hB : Below w.heap.size w w := Below.refl _ _
  go_enter Tryd.func68, Tryd.ntmps68
  go_wp2_with fail
  refine (rruleBase_c _ _ _ _ _ _ _ _ _ hm.out _).mono ?_; rintro e w1 ⟨rfl, hb1⟩
  have hz1 := hb1.size; (try simp at hz1); obtain ⟨hc1, hf1⟩ := bcell hb1; have hB1 := below_step (w := w) hb1 (by repeat (first | assumption | exact Below.refl _ _ | (with_reducible refine Below.drew ?_) | (with_reducible refine below_drewN' ?_ _) | (with_reducible refine below_al ?_) | ((with_reducible refine below_set ?_ ?_); rotate_left; focus (first | (simp; done) | (simp; omega)))))
  have le_w_w1 : w.heap.size ≤ w1.heap.size := by omega
  try have lt_w_w1 : w.heap.size < w1.heap.size := by omega
  go_wp2_with fail
  refine (rwd_c _ _).mono ?_; rintro e w' ⟨rfl, rfl⟩
  go_wp2_with fail
  go_ret2
  exact ⟨rfl, by repeat (first | assumption | exact Below.refl _ _ | (with_reducible refine Below.drew ?_) | (with_reducible refine below_drewN' ?_ _) | (with_reducible refine below_al ?_) | ((with_reducible refine below_set ?_ ?_); rotate_left; focus (first | (simp; done) | (simp; omega))))⟩
set_option maxHeartbeats 1000000 in
theorem rin_25x (kd mo da kk off sh fr to y b : Int) (hm : Hid (Rul.mayP kd mo da kk off 2 fr to)) (hb : Rul.ba kd mo da kk off fr to y = b) (p : Rul.pos b = true) (b1 : 1 ≤ b) (b2 : b ≤ 3652059) (w5 : Cal.wd b = 5) (r2 : 3652059 < b + 2) (w : World) : Calls Tryd.prog 68 #[.agg #[.int .i64 kd, .int .i64 mo, .int .i64 da, .int .i64 kk, .int .i64 off, .int .i64 2, .int .i64 fr, .int .i64 to], .int .i64 y] w fun e w' => e = .returned (.tuple #[.int .i64 0, .bool false]) ∧ Below w.heap.size w w' := by
  have hB : Below w.heap.size w w := Below.refl _ _
  go_enter Tryd.func68, Tryd.ntmps68
  go_wp2_with fail
  refine (rruleBase_c _ _ _ _ _ _ _ _ _ hm.out _).mono ?_; rintro e w1 ⟨rfl, hb1⟩
  have hz1 := hb1.size; (try simp at hz1); obtain ⟨hc1, hf1⟩ := bcell hb1; have hB1 := below_step (w := w) hb1 (by repeat (first | assumption | exact Below.refl _ _ | (with_reducible refine Below.drew ?_) | (with_reducible refine below_drewN' ?_ _) | (with_reducible refine below_al ?_) | ((with_reducible refine below_set ?_ ?_); rotate_left; focus (first | (simp; done) | (simp; omega)))))
  have le_w_w1 : w.heap.size ≤ w1.heap.size := by omega
  try have lt_w_w1 : w.heap.size < w1.heap.size := by omega
  go_wp2_with fail
  refine (rwd_c _ _).mono ?_; rintro e w' ⟨rfl, rfl⟩
  go_wp2_with fail
  go_ret2
  exact ⟨rfl, by repeat (first | assumption | exact Below.refl _ _ | (with_reducible refine Below.drew ?_) | (with_reducible refine below_drewN' ?_ _) | (with_reducible refine below_al ?_) | ((with_reducible refine below_set ?_ ?_); rotate_left; focus (first | (simp; done) | (simp; omega))))⟩
set_option maxHeartbeats 1000000 in
theorem in_26 (kd mo da kk off sh fr to y b : Int) (hm : Hid (Rul.mayP kd mo da kk off 2 fr to)) (hb : Rul.ba kd mo da kk off fr to y = b) (p : Rul.pos b = true) (b1 : 1 ≤ b) (b2 : b ≤ 3652059) (w6 : Cal.wd b = 6) (w : World) (hL : Laid w) : Calls Tryd.prog 77 #[.agg #[.int .i64 kd, .int .i64 mo, .int .i64 da, .int .i64 kk, .int .i64 off, .int .i64 2, .int .i64 fr, .int .i64 to], .int .i64 y] w fun e w' => e = .returned (.tuple #[.int .i64 (Rul.dayV (b + 1)), .bool (dayE (b + 1) == 0)]) ∧ Below w.heap.size w w' := by
  have hB : Below w.heap.size w w := Below.refl _ _
  go_enter Tryd.func77, Tryd.ntmps77
  go_wp2_with fail
  refine (ruleBase_c _ _ _ _ _ _ _ _ _ hm.out _ (hL.below (by repeat (first | assumption | exact Below.refl _ _ | (with_reducible refine Below.drew ?_) | (with_reducible refine below_drewN' ?_ _) | (with_reducible refine below_al ?_) | ((with_reducible refine below_set ?_ ?_); rotate_left; focus (first | (simp; done) | (simp; omega))))))).mono ?_; rintro e w1 ⟨rfl, hb1⟩
  have hz1 := hb1.size; (try simp at hz1); obtain ⟨hc1, hf1⟩ := bcell hb1; have hB1 := below_step (w := w) hb1 (by repeat (first | assumption | exact Below.refl _ _ | (with_reducible refine Below.drew ?_) | (with_reducible refine below_drewN' ?_ _) | (with_reducible refine below_al ?_) | ((with_reducible refine below_set ?_ ?_); rotate_left; focus (first | (simp; done) | (simp; omega)))))
  have le_w_w1 : w.heap.size ≤ w1.heap.size := by omega
  try have lt_w_w1 : w.heap.size < w1.heap.size := by omega
  go_wp2_with fail
  refine (wd_c _ _).mono ?_; rintro e w' ⟨rfl, rfl⟩
  go_wp2_with fail
  refine (ruleDay_c _ _).mono ?_; rintro e w' ⟨rfl, rfl⟩
  go_wp2_with fail
  go_ret2
  exact ⟨rfl, by repeat (first | assumption | exact Below.refl _ _ | (with_reducible refine Below.drew ?_) | (with_reducible refine below_drewN' ?_ _) | (with_reducible refine below_al ?_) | ((with_reducible refine below_set ?_ ?_); rotate_left; focus (first | (simp; done) | (simp; omega))))⟩
set_option maxHeartbeats 1000000 in
theorem rin_26 (kd mo da kk off sh fr to y b : Int) (hm : Hid (Rul.mayP kd mo da kk off 2 fr to)) (hb : Rul.ba kd mo da kk off fr to y = b) (p : Rul.pos b = true) (b1 : 1 ≤ b) (b2 : b ≤ 3652059) (w6 : Cal.wd b = 6) (r1 : 1 ≤ b + 1) (r2 : b + 1 ≤ 3652059) (w : World) : Calls Tryd.prog 68 #[.agg #[.int .i64 kd, .int .i64 mo, .int .i64 da, .int .i64 kk, .int .i64 off, .int .i64 2, .int .i64 fr, .int .i64 to], .int .i64 y] w fun e w' => e = .returned (.tuple #[.int .i64 (b + 1), .bool true]) ∧ Below w.heap.size w w' := by
  have hB : Below w.heap.size w w := Below.refl _ _
  go_enter Tryd.func68, Tryd.ntmps68
  go_wp2_with fail
  refine (rruleBase_c _ _ _ _ _ _ _ _ _ hm.out _).mono ?_; rintro e w1 ⟨rfl, hb1⟩
  have hz1 := hb1.size; (try simp at hz1); obtain ⟨hc1, hf1⟩ := bcell hb1; have hB1 := below_step (w := w) hb1 (by repeat (first | assumption | exact Below.refl _ _ | (with_reducible refine Below.drew ?_) | (with_reducible refine below_drewN' ?_ _) | (with_reducible refine below_al ?_) | ((with_reducible refine below_set ?_ ?_); rotate_left; focus (first | (simp; done) | (simp; omega)))))
  have le_w_w1 : w.heap.size ≤ w1.heap.size := by omega
  try have lt_w_w1 : w.heap.size < w1.heap.size := by omega
  go_wp2_with fail
  refine (rwd_c _ _).mono ?_; rintro e w' ⟨rfl, rfl⟩
  go_wp2_with fail
  go_ret2
  exact ⟨rfl, by repeat (first | assumption | exact Below.refl _ _ | (with_reducible refine Below.drew ?_) | (with_reducible refine below_drewN' ?_ _) | (with_reducible refine below_al ?_) | ((with_reducible refine below_set ?_ ?_); rotate_left; focus (first | (simp; done) | (simp; omega))))⟩
set_option maxHeartbeats 1000000 in
theorem rin_26x (kd mo da kk off sh fr to y b : Int) (hm : Hid (Rul.mayP kd mo da kk off 2 fr to)) (hb : Rul.ba kd mo da kk off fr to y = b) (p : Rul.pos b = true) (b1 : 1 ≤ b) (b2 : b ≤ 3652059) (w6 : Cal.wd b = 6) (r2 : 3652059 < b + 1) (w : World) : Calls Tryd.prog 68 #[.agg #[.int .i64 kd, .int .i64 mo, .int .i64 da, .int .i64 kk, .int .i64 off, .int .i64 2, .int .i64 fr, .int .i64 to], .int .i64 y] w fun e w' => e = .returned (.tuple #[.int .i64 0, .bool false]) ∧ Below w.heap.size w w' := by
  have hB : Below w.heap.size w w := Below.refl _ _
  go_enter Tryd.func68, Tryd.ntmps68
  go_wp2_with fail
  refine (rruleBase_c _ _ _ _ _ _ _ _ _ hm.out _).mono ?_; rintro e w1 ⟨rfl, hb1⟩
  have hz1 := hb1.size; (try simp at hz1); obtain ⟨hc1, hf1⟩ := bcell hb1; have hB1 := below_step (w := w) hb1 (by repeat (first | assumption | exact Below.refl _ _ | (with_reducible refine Below.drew ?_) | (with_reducible refine below_drewN' ?_ _) | (with_reducible refine below_al ?_) | ((with_reducible refine below_set ?_ ?_); rotate_left; focus (first | (simp; done) | (simp; omega)))))
  have le_w_w1 : w.heap.size ≤ w1.heap.size := by omega
  try have lt_w_w1 : w.heap.size < w1.heap.size := by omega
  go_wp2_with fail
  refine (rwd_c _ _).mono ?_; rintro e w' ⟨rfl, rfl⟩
  go_wp2_with fail
  go_ret2
  exact ⟨rfl, by repeat (first | assumption | exact Below.refl _ _ | (with_reducible refine Below.drew ?_) | (with_reducible refine below_drewN' ?_ _) | (with_reducible refine below_al ?_) | ((with_reducible refine below_set ?_ ?_); rotate_left; focus (first | (simp; done) | (simp; omega))))⟩
set_option maxHeartbeats 1000000 in
theorem in_20 (kd mo da kk off sh fr to y b : Int) (hm : Hid (Rul.mayP kd mo da kk off 2 fr to)) (hb : Rul.ba kd mo da kk off fr to y = b) (p : Rul.pos b = true) (b1 : 1 ≤ b) (b2 : b ≤ 3652059) (w5 : (Cal.wd b == 5) = false) (w6 : (Cal.wd b == 6) = false) (w : World) (hL : Laid w) : Calls Tryd.prog 77 #[.agg #[.int .i64 kd, .int .i64 mo, .int .i64 da, .int .i64 kk, .int .i64 off, .int .i64 2, .int .i64 fr, .int .i64 to], .int .i64 y] w fun e w' => e = .returned (.tuple #[.int .i64 (Rul.dayV (b)), .bool (dayE (b) == 0)]) ∧ Below w.heap.size w w' := by
  have hB : Below w.heap.size w w := Below.refl _ _
  go_enter Tryd.func77, Tryd.ntmps77
  go_wp2_with fail
  refine (ruleBase_c _ _ _ _ _ _ _ _ _ hm.out _ (hL.below (by repeat (first | assumption | exact Below.refl _ _ | (with_reducible refine Below.drew ?_) | (with_reducible refine below_drewN' ?_ _) | (with_reducible refine below_al ?_) | ((with_reducible refine below_set ?_ ?_); rotate_left; focus (first | (simp; done) | (simp; omega))))))).mono ?_; rintro e w1 ⟨rfl, hb1⟩
  have hz1 := hb1.size; (try simp at hz1); obtain ⟨hc1, hf1⟩ := bcell hb1; have hB1 := below_step (w := w) hb1 (by repeat (first | assumption | exact Below.refl _ _ | (with_reducible refine Below.drew ?_) | (with_reducible refine below_drewN' ?_ _) | (with_reducible refine below_al ?_) | ((with_reducible refine below_set ?_ ?_); rotate_left; focus (first | (simp; done) | (simp; omega)))))
  have le_w_w1 : w.heap.size ≤ w1.heap.size := by omega
  try have lt_w_w1 : w.heap.size < w1.heap.size := by omega
  go_wp2_with fail
  refine (wd_c _ _).mono ?_; rintro e w' ⟨rfl, rfl⟩
  go_wp2_with fail
  refine (ruleDay_c _ _).mono ?_; rintro e w' ⟨rfl, rfl⟩
  go_wp2_with fail
  go_ret2
  exact ⟨rfl, by repeat (first | assumption | exact Below.refl _ _ | (with_reducible refine Below.drew ?_) | (with_reducible refine below_drewN' ?_ _) | (with_reducible refine below_al ?_) | ((with_reducible refine below_set ?_ ?_); rotate_left; focus (first | (simp; done) | (simp; omega))))⟩
set_option maxHeartbeats 1000000 in
theorem rin_20 (kd mo da kk off sh fr to y b : Int) (hm : Hid (Rul.mayP kd mo da kk off 2 fr to)) (hb : Rul.ba kd mo da kk off fr to y = b) (p : Rul.pos b = true) (b1 : 1 ≤ b) (b2 : b ≤ 3652059) (w5 : (Cal.wd b == 5) = false) (w6 : (Cal.wd b == 6) = false) (w : World) : Calls Tryd.prog 68 #[.agg #[.int .i64 kd, .int .i64 mo, .int .i64 da, .int .i64 kk, .int .i64 off, .int .i64 2, .int .i64 fr, .int .i64 to], .int .i64 y] w fun e w' => e = .returned (.tuple #[.int .i64 (b), .bool true]) ∧ Below w.heap.size w w' := by
  have hB : Below w.heap.size w w := Below.refl _ _
  go_enter Tryd.func68, Tryd.ntmps68
  go_wp2_with fail
  refine (rruleBase_c _ _ _ _ _ _ _ _ _ hm.out _).mono ?_; rintro e w1 ⟨rfl, hb1⟩
  have hz1 := hb1.size; (try simp at hz1); obtain ⟨hc1, hf1⟩ := bcell hb1; have hB1 := below_step (w := w) hb1 (by repeat (first | assumption | exact Below.refl _ _ | (with_reducible refine Below.drew ?_) | (with_reducible refine below_drewN' ?_ _) | (with_reducible refine below_al ?_) | ((with_reducible refine below_set ?_ ?_); rotate_left; focus (first | (simp; done) | (simp; omega)))))
  have le_w_w1 : w.heap.size ≤ w1.heap.size := by omega
  try have lt_w_w1 : w.heap.size < w1.heap.size := by omega
  go_wp2_with fail
  refine (rwd_c _ _).mono ?_; rintro e w' ⟨rfl, rfl⟩
  go_wp2_with fail
  go_ret2
  exact ⟨rfl, by repeat (first | assumption | exact Below.refl _ _ | (with_reducible refine Below.drew ?_) | (with_reducible refine below_drewN' ?_ _) | (with_reducible refine below_al ?_) | ((with_reducible refine below_set ?_ ?_); rotate_left; focus (first | (simp; done) | (simp; omega))))⟩
theorem ins_no {kd mo da kk off sh fr to y : Int} (h : Rul.ba kd mo da kk off fr to y = 0) : Rul.ins kd mo da kk off sh fr to y = 0 := if_pos h
theorem ins_some {kd mo da kk off sh fr to y : Int} (h : Rul.ba kd mo da kk off fr to y ≠ 0) : Rul.ins kd mo da kk off sh fr to y = Rul.dayV (Rul.shf (Rul.ba kd mo da kk off fr to y) sh) := if_neg h
theorem ruleIn_c (kd mo da kk off sh fr to y : Int) (hm : Rul.mayP kd mo da kk off sh fr to) (w : World) (hL : Laid w) : Calls Tryd.prog 77 #[.agg #[.int .i64 kd, .int .i64 mo, .int .i64 da, .int .i64 kk, .int .i64 off, .int .i64 sh, .int .i64 fr, .int .i64 to], .int .i64 y] w fun e w' => e = .returned (.tuple #[.int .i64 (Rul.ins kd mo da kk off sh fr to y), .bool (Rul.pos (Rul.ins kd mo da kk off sh fr to y))]) ∧ Below w.heap.size w w' := by
  by_cases h0 : Rul.ba kd mo da kk off fr to y = 0
  · rw [ins_no h0]; exact in_none kd mo da kk off sh fr to y 0 hm h0 rfl w hL
  have bd := Rul.ba_bd hm y
  have b1 : 1 ≤ Rul.ba kd mo da kk off fr to y := by omega
  have b2 := bd.2
  rw [ins_some h0]
  have p := Rul.pos_yes (show 0 < Rul.ba kd mo da kk off fr to y by omega)
  obtain ⟨b, hb⟩ : ∃ b, Rul.ba kd mo da kk off fr to y = b := ⟨_, rfl⟩
  rw [hb] at b1 b2 p ⊢
  have hsh : sh = 0 ∨ sh = 1 ∨ sh = 2 := by obtain ⟨_, _, _⟩ := hm; omega
  rcases hsh with rfl | rfl | rfl
  · rw [show Rul.shf b 0 = b by unfold Rul.shf; split <;> (try split) <;> simp_all]
    rw [← dayE_pos]
    exact in_0 kd mo da kk off 0 fr to y b hm hb p b1 b2 w hL
  · by_cases w5 : Cal.wd b = 5
    · rw [show Rul.shf b 1 = b - 1 by unfold Rul.shf; rw [if_pos w5]; rfl]
      rw [← dayE_pos]
      exact in_15 kd mo da kk off 1 fr to y b hm hb p b1 b2 w5 w hL
    by_cases w6 : Cal.wd b = 6
    · rw [show Rul.shf b 1 = b + 1 by unfold Rul.shf; rw [if_neg w5, if_pos w6]; rfl]
      rw [← dayE_pos]
      exact in_16 kd mo da kk off 1 fr to y b hm hb p b1 b2 w6 w hL
    · rw [show Rul.shf b 1 = b by unfold Rul.shf; rw [if_neg w5, if_neg w6]]
      rw [← dayE_pos]
      exact in_10 kd mo da kk off 1 fr to y b hm hb p b1 b2 (beq_eq_false_iff_ne.2 w5) (beq_eq_false_iff_ne.2 w6) w hL
  · by_cases w5 : Cal.wd b = 5
    · rw [show Rul.shf b 2 = b + 2 by unfold Rul.shf; rw [if_pos w5]; rfl]
      rw [show b + 2 = b + 1 + 1 by omega, ← dayE_pos]
      exact in_25 kd mo da kk off 2 fr to y b hm hb p b1 b2 w5 w hL
    by_cases w6 : Cal.wd b = 6
    · rw [show Rul.shf b 2 = b + 1 by unfold Rul.shf; rw [if_neg w5, if_pos w6]; rfl]
      rw [← dayE_pos]
      exact in_26 kd mo da kk off 2 fr to y b hm hb p b1 b2 w6 w hL
    · rw [show Rul.shf b 2 = b by unfold Rul.shf; rw [if_neg w5, if_neg w6]]
      rw [← dayE_pos]
      exact in_20 kd mo da kk off 2 fr to y b hm hb p b1 b2 (beq_eq_false_iff_ne.2 w5) (beq_eq_false_iff_ne.2 w6) w hL
theorem rruleIn_c (kd mo da kk off sh fr to y : Int) (hm : Rul.mayP kd mo da kk off sh fr to) (w : World) : Calls Tryd.prog 68 #[.agg #[.int .i64 kd, .int .i64 mo, .int .i64 da, .int .i64 kk, .int .i64 off, .int .i64 sh, .int .i64 fr, .int .i64 to], .int .i64 y] w fun e w' => e = .returned (.tuple #[.int .i64 (Rul.ins kd mo da kk off sh fr to y), .bool (Rul.pos (Rul.ins kd mo da kk off sh fr to y))]) ∧ Below w.heap.size w w' := by
  by_cases h0 : Rul.ba kd mo da kk off fr to y = 0
  · rw [ins_no h0]; exact rin_none kd mo da kk off sh fr to y 0 hm h0 rfl w
  have bd := Rul.ba_bd hm y
  have b1 : 1 ≤ Rul.ba kd mo da kk off fr to y := by omega
  have b2 := bd.2
  rw [ins_some h0]
  have p := Rul.pos_yes (show 0 < Rul.ba kd mo da kk off fr to y by omega)
  obtain ⟨b, hb⟩ : ∃ b, Rul.ba kd mo da kk off fr to y = b := ⟨_, rfl⟩
  rw [hb] at b1 b2 p ⊢
  have hsh : sh = 0 ∨ sh = 1 ∨ sh = 2 := by obtain ⟨_, _, _⟩ := hm; omega
  rcases hsh with rfl | rfl | rfl
  · rw [show Rul.shf b 0 = b by unfold Rul.shf; split <;> (try split) <;> simp_all]
    rw [Rul.dayV_in b1 b2, p]
    exact rin_0 kd mo da kk off 0 fr to y b hm hb p b1 b2 w
  · by_cases w5 : Cal.wd b = 5
    · rw [show Rul.shf b 1 = b - 1 by unfold Rul.shf; rw [if_pos w5]; rfl]
      by_cases c : b - 1 < 1
      · rw [Rul.dayV_out (by omega)]; exact rin_15x kd mo da kk off 1 fr to y b hm hb p b1 b2 w5 c w
      · rw [Rul.dayV_in (by omega) (by omega), Rul.pos_yes (by omega)]; exact rin_15 kd mo da kk off 1 fr to y b hm hb p b1 b2 w5 (by omega) (by omega) w
    by_cases w6 : Cal.wd b = 6
    · rw [show Rul.shf b 1 = b + 1 by unfold Rul.shf; rw [if_neg w5, if_pos w6]; rfl]
      by_cases c : 3652059 < b + 1
      · rw [Rul.dayV_out (by omega)]; exact rin_16x kd mo da kk off 1 fr to y b hm hb p b1 b2 w6 c w
      · rw [Rul.dayV_in (by omega) (by omega), Rul.pos_yes (by omega)]; exact rin_16 kd mo da kk off 1 fr to y b hm hb p b1 b2 w6 (by omega) (by omega) w
    · rw [show Rul.shf b 1 = b by unfold Rul.shf; rw [if_neg w5, if_neg w6]]
      rw [Rul.dayV_in b1 b2, p]
      exact rin_10 kd mo da kk off 1 fr to y b hm hb p b1 b2 (beq_eq_false_iff_ne.2 w5) (beq_eq_false_iff_ne.2 w6) w
  · by_cases w5 : Cal.wd b = 5
    · rw [show Rul.shf b 2 = b + 2 by unfold Rul.shf; rw [if_pos w5]; rfl]
      by_cases c : 3652059 < b + 2
      · rw [Rul.dayV_out (by omega)]; exact rin_25x kd mo da kk off 2 fr to y b hm hb p b1 b2 w5 c w
      · rw [Rul.dayV_in (by omega) (by omega), Rul.pos_yes (by omega)]; exact rin_25 kd mo da kk off 2 fr to y b hm hb p b1 b2 w5 (by omega) (by omega) w
    by_cases w6 : Cal.wd b = 6
    · rw [show Rul.shf b 2 = b + 1 by unfold Rul.shf; rw [if_neg w5, if_pos w6]; rfl]
      by_cases c : 3652059 < b + 1
      · rw [Rul.dayV_out (by omega)]; exact rin_26x kd mo da kk off 2 fr to y b hm hb p b1 b2 w6 c w
      · rw [Rul.dayV_in (by omega) (by omega), Rul.pos_yes (by omega)]; exact rin_26 kd mo da kk off 2 fr to y b hm hb p b1 b2 w6 (by omega) (by omega) w
    · rw [show Rul.shf b 2 = b by unfold Rul.shf; rw [if_neg w5, if_neg w6]]
      rw [Rul.dayV_in b1 b2, p]
      exact rin_20 kd mo da kk off 2 fr to y b hm hb p b1 b2 (beq_eq_false_iff_ne.2 w5) (beq_eq_false_iff_ne.2 w6) w
end Go.Proofs.YtlilffoflkkbdaaDoor
