/- The contracts of the layer of rules, whole: is a day one of a rule, by the program and by the document. Conditions: the table of months' lengths lies as the program's text lays it. -/
import Derived.Test.YtlilffoflkkbdaaDoorRulF
namespace Go.Proofs.YtlilffoflkkbdaaDoor
open Go.RowKit
set_option linter.unusedVariables false

theorem isB_yes {kd mo da kk off sh fr to n z : Int} (h1 : 1 ≤ n) (h2 : n ≤ 3652059) (z1 : Cal.yOf n - 1 ≤ z) (z2 : z ≤ Cal.yOf n + 1) (h : Rul.ins kd mo da kk off sh fr to z = n) : Rul.isB kd mo da kk off sh fr to n = true := by
  have c : z = Cal.yOf n - 1 ∨ z = Cal.yOf n ∨ z = Cal.yOf n + 1 := by omega
  unfold Rul.isB; rw [dayB_in h1 h2, Bool.true_and, Bool.or_eq_true, Bool.or_eq_true]
  rcases c with rfl | rfl | rfl
  · exact Or.inl (Or.inl (beq_iff_eq.2 h))
  · exact Or.inl (Or.inr (beq_iff_eq.2 h))
  · exact Or.inr (beq_iff_eq.2 h)
theorem isB_no {kd mo da kk off sh fr to n : Int} (h : ∀ x, Cal.yOf n - 1 ≤ x → x < Cal.yOf n + 2 → Rul.ins kd mo da kk off sh fr to x ≠ n) : Rul.isB kd mo da kk off sh fr to n = false := by
  unfold Rul.isB
  rw [beq_eq_false_iff_ne.2 (h (Cal.yOf n - 1) (by omega) (by omega)), beq_eq_false_iff_ne.2 (h (Cal.yOf n) (by omega) (by omega)), beq_eq_false_iff_ne.2 (h (Cal.yOf n + 1) (by omega) (by omega))]
  simp
theorem isB_out {kd mo da kk off sh fr to n : Int} (h : n < 1 ∨ 3652059 < n) : Rul.isB kd mo da kk off sh fr to n = false := by
  unfold Rul.isB; rw [dayB_out h, Bool.false_and]
theorem is_out (kd mo da kk off sh fr to n : Int) (h : Hid (n < 1 ∨ 3652059 < n)) (w : World) : Calls Tryd.prog 63 #[.agg #[.int .i64 kd, .int .i64 mo, .int .i64 da, .int .i64 kk, .int .i64 off, .int .i64 sh, .int .i64 fr, .int .i64 to], .int .i64 n] w fun e w' => e = .returned (.bool false) ∧ Below w.heap.size w w' := by
  have hB : Below w.heap.size w w := Below.refl _ _
  go_enter Tryd.func63, Tryd.ntmps63
  go_wp2_with fail
  refine (of_no _ _ h.out).mono ?_; rintro e w1 ⟨rfl, hb1⟩
  have hz1 := hb1.size; (try simp at hz1); obtain ⟨hc1, hf1⟩ := bcell hb1; have hB1 := below_step (w := w) hb1 (by repeat (first | assumption | exact Below.refl _ _ | (with_reducible refine Below.drew ?_) | (with_reducible refine below_drewN' ?_ _) | (with_reducible refine below_al ?_) | ((with_reducible refine below_set ?_ ?_); rotate_left; focus (first | (simp; done) | (simp; omega)))))
  have le_w_w1 : w.heap.size ≤ w1.heap.size := by omega
  try have lt_w_w1 : w.heap.size < w1.heap.size := by omega
  go_wp2_with fail
  go_ret
  exact ⟨rfl, by repeat (first | assumption | exact Below.refl _ _ | (with_reducible refine Below.drew ?_) | (with_reducible refine below_drewN' ?_ _) | (with_reducible refine below_al ?_) | ((with_reducible refine below_set ?_ ?_); rotate_left; focus (first | (simp; done) | (simp; omega))))⟩
set_option maxHeartbeats 2000000 in
theorem is_in (kd mo da kk off sh fr to n : Int) (B : Bool) (hR : Hid (Rul.isB kd mo da kk off sh fr to n = B)) (hm : Hid (Rul.mayP kd mo da kk off sh fr to)) (n1 : 1 ≤ n) (n2 : n ≤ 3652059) (y1 : 1 ≤ Cal.yOf n) (y2 : Cal.yOf n ≤ 9999) (w : World) (hL : Laid w) : Calls Tryd.prog 63 #[.agg #[.int .i64 kd, .int .i64 mo, .int .i64 da, .int .i64 kk, .int .i64 off, .int .i64 sh, .int .i64 fr, .int .i64 to], .int .i64 n] w fun e w' => e = .returned (.bool B) ∧ Below w.heap.size w w' := by
  have hB : Below w.heap.size w w := Below.refl _ _
  go_enter Tryd.func63, Tryd.ntmps63
  go_wp2_with fail
  refine (of_yes _ _ (hL.below (by repeat (first | assumption | exact Below.refl _ _ | (with_reducible refine Below.drew ?_) | (with_reducible refine below_drewN' ?_ _) | (with_reducible refine below_al ?_) | ((with_reducible refine below_set ?_ ?_); rotate_left; focus (first | (simp; done) | (simp; omega)))))) n1 n2).mono ?_; rintro e w1 ⟨rfl, hb1⟩
  have hz1 := hb1.size; (try simp at hz1); obtain ⟨hc1, hf1⟩ := bcell hb1; have hB1 := below_step (w := w) hb1 (by repeat (first | assumption | exact Below.refl _ _ | (with_reducible refine Below.drew ?_) | (with_reducible refine below_drewN' ?_ _) | (with_reducible refine below_al ?_) | ((with_reducible refine below_set ?_ ?_); rotate_left; focus (first | (simp; done) | (simp; omega)))))
  have le_w_w1 : w.heap.size ≤ w1.heap.size := by omega
  try have lt_w_w1 : w.heap.size < w1.heap.size := by omega
  go_wp2_with fail
  go_loopw [7] (fun a W' => ∃ z : Int, a = .int .i64 z ∧ Cal.yOf n - 1 ≤ z ∧ z ≤ Cal.yOf n + 2 ∧ Below w.heap.size w W' ∧ w.heap.size < W'.heap.size ∧ w1.heap.size < W'.heap.size ∧ W'.cell? ⟨w.heap.size, 0, none⟩ = some (.int .i64 kd) ∧ W'.cell? ⟨w.heap.size, 1, none⟩ = some (.int .i64 mo) ∧ W'.cell? ⟨w.heap.size, 2, none⟩ = some (.int .i64 da) ∧ W'.cell? ⟨w.heap.size, 3, none⟩ = some (.int .i64 kk) ∧ W'.cell? ⟨w.heap.size, 4, none⟩ = some (.int .i64 off) ∧ W'.cell? ⟨w.heap.size, 5, none⟩ = some (.int .i64 sh) ∧ W'.cell? ⟨w.heap.size, 6, none⟩ = some (.int .i64 fr) ∧ W'.cell? ⟨w.heap.size, 7, none⟩ = some (.int .i64 to) ∧ W'.cell? ⟨w1.heap.size, 0, none⟩ = some (.int .i64 (Cal.yOf n)) ∧ Hid (∀ x, Cal.yOf n - 1 ≤ x → x < z → Rul.ins kd mo da kk off sh fr to x ≠ n)) (fun a _ => (Cal.yOf n + 2 - intOf a).toNat)
  case atStart =>
    refine ⟨_, rfl, by omega, by omega, by repeat (first | assumption | exact Below.refl _ _ | (with_reducible refine Below.drew ?_) | (with_reducible refine below_drewN' ?_ _) | (with_reducible refine below_al ?_) | ((with_reducible refine below_set ?_ ?_); rotate_left; focus (first | (simp; done) | (simp; omega)))), by simp; omega, by simp, ?_, ?_, ?_, ?_, ?_, ?_, ?_, ?_, ?_, fun x q1 q2 => by omega⟩
    all_goals (simp [*, go_sem]; done)
  case round =>
    clear hz1 hc1 hf1 hb1 hB1
    obtain ⟨z, rfl, z1, z2, hBw, s1, s2, c0, c1, c2, c3, c4, c5, c6, c7, cy, hq⟩ := hrel
    by_cases hz : z ≤ Cal.yOf n + 1
    · go_wp2_with fail
      refine (ruleIn_c _ _ _ _ _ _ _ _ _ hm.out _ (hL.below (by assumption))).mono ?_; rintro e w2 ⟨rfl, hb2⟩
      have hz2 := hb2.size
      obtain ⟨hc2, hf2⟩ := bcell hb2
      have hB2 := below_step (w := w) hb2 (by assumption)
      by_cases e : Rul.ins kd mo da kk off sh fr to z = n
      · have hp : Rul.pos (Rul.ins kd mo da kk off sh fr to z) = true := by rw [e]; exact Rul.pos_yes (by omega)
        have he : (Rul.ins kd mo da kk off sh fr to z == n) = true := beq_iff_eq.2 e
        have hb : B = true := by rw [← hR.out]; exact isB_yes n1 n2 z1 hz e
        subst hb
        clear e hR
        go_wp2_with fail
        go_ret
        exact ⟨rfl, hB2⟩
      · have he : (Rul.ins kd mo da kk off sh fr to z == n) = false := beq_eq_false_iff_ne.2 e
        have hq' : Hid (∀ x, Cal.yOf n - 1 ≤ x → x < z + 1 → Rul.ins kd mo da kk off sh fr to x ≠ n) := fun x x1 x2 => by
          by_cases c : x = z
          · subst c; exact e
          · exact hq.out x x1 (by omega)
        have d0 := (hc2 _ 0 s1).trans c0
        have d1 := (hc2 _ 1 s1).trans c1
        have d2 := (hc2 _ 2 s1).trans c2
        have d3 := (hc2 _ 3 s1).trans c3
        have d4 := (hc2 _ 4 s1).trans c4
        have d5 := (hc2 _ 5 s1).trans c5
        have d6 := (hc2 _ 6 s1).trans c6
        have d7 := (hc2 _ 7 s1).trans c7
        have dy := (hc2 _ 0 s2).trans cy
        have t1 : w.heap.size < w2.heap.size := by omega
        have t2 : w1.heap.size < w2.heap.size := by omega
        clear hc2 hf2 c0 c1 c2 c3 c4 c5 c6 c7 cy hq e
        cases hp : Rul.pos (Rul.ins kd mo da kk off sh fr to z)
        all_goals
          go_wp2_with fail
          go_roundw
          case rel => exact ⟨z + 1, rfl, by omega, by omega, hB2, t1, t2, d0, d1, d2, d3, d4, d5, d6, d7, dy, hq'⟩
          case measure => simp [intOf]; omega
    · have ez : z = Cal.yOf n + 2 := by omega
      have hb : B = false := by rw [← hR.out]; exact isB_no (by rw [← ez]; exact hq.out)
      subst hb
      go_wp2_with fail
      go_ret
      exact ⟨rfl, hBw⟩
theorem ruleIs_c (kd mo da kk off sh fr to n : Int) (hm : Rul.mayP kd mo da kk off sh fr to) (w : World) (hL : Laid w) : Calls Tryd.prog 63 #[.agg #[.int .i64 kd, .int .i64 mo, .int .i64 da, .int .i64 kk, .int .i64 off, .int .i64 sh, .int .i64 fr, .int .i64 to], .int .i64 n] w fun e w' => e = .returned (.bool (Rul.isB kd mo da kk off sh fr to n)) ∧ Below w.heap.size w w' := by
  by_cases h : 1 ≤ n ∧ n ≤ 3652059
  · have A := Cal.day_of n h.1 h.2
    exact is_in kd mo da kk off sh fr to n _ (show _ = _ from rfl) hm h.1 h.2 A.y1 A.y2 w hL
  · rw [isB_out (by omega)]; exact is_out kd mo da kk off sh fr to n (show _ ∨ _ by omega) w
theorem ris_out (kd mo da kk off sh fr to n : Int) (h : Hid (n < 1 ∨ 3652059 < n)) (w : World) : Calls Tryd.prog 43 #[.agg #[.int .i64 kd, .int .i64 mo, .int .i64 da, .int .i64 kk, .int .i64 off, .int .i64 sh, .int .i64 fr, .int .i64 to], .int .i64 n] w fun e w' => e = .returned (.bool false) ∧ Below w.heap.size w w' := by
  have hB : Below w.heap.size w w := Below.refl _ _
  go_enter Tryd.func43, Tryd.ntmps43
  go_wp2_with fail
  refine (rof_no _ _ h.out).mono ?_; rintro e w1 ⟨rfl, hb1⟩
  have hz1 := hb1.size; (try simp at hz1); obtain ⟨hc1, hf1⟩ := bcell hb1; have hB1 := below_step (w := w) hb1 (by repeat (first | assumption | exact Below.refl _ _ | (with_reducible refine Below.drew ?_) | (with_reducible refine below_drewN' ?_ _) | (with_reducible refine below_al ?_) | ((with_reducible refine below_set ?_ ?_); rotate_left; focus (first | (simp; done) | (simp; omega)))))
  have le_w_w1 : w.heap.size ≤ w1.heap.size := by omega
  try have lt_w_w1 : w.heap.size < w1.heap.size := by omega
  go_wp2_with fail
  go_ret
  exact ⟨rfl, by repeat (first | assumption | exact Below.refl _ _ | (with_reducible refine Below.drew ?_) | (with_reducible refine below_drewN' ?_ _) | (with_reducible refine below_al ?_) | ((with_reducible refine below_set ?_ ?_); rotate_left; focus (first | (simp; done) | (simp; omega))))⟩
set_option maxHeartbeats 2000000 in
theorem ris_in (kd mo da kk off sh fr to n : Int) (B : Bool) (hR : Hid (Rul.isB kd mo da kk off sh fr to n = B)) (hm : Hid (Rul.mayP kd mo da kk off sh fr to)) (n1 : 1 ≤ n) (n2 : n ≤ 3652059) (y1 : 1 ≤ Cal.yOf n) (y2 : Cal.yOf n ≤ 9999) (w : World) : Calls Tryd.prog 43 #[.agg #[.int .i64 kd, .int .i64 mo, .int .i64 da, .int .i64 kk, .int .i64 off, .int .i64 sh, .int .i64 fr, .int .i64 to], .int .i64 n] w fun e w' => e = .returned (.bool B) ∧ Below w.heap.size w w' := by
  have hB : Below w.heap.size w w := Below.refl _ _
  go_enter Tryd.func43, Tryd.ntmps43
  go_wp2_with fail
  refine (rof_yes _ _ n1 n2).mono ?_; rintro e w1 ⟨rfl, hb1⟩
  have hz1 := hb1.size; (try simp at hz1); obtain ⟨hc1, hf1⟩ := bcell hb1; have hB1 := below_step (w := w) hb1 (by repeat (first | assumption | exact Below.refl _ _ | (with_reducible refine Below.drew ?_) | (with_reducible refine below_drewN' ?_ _) | (with_reducible refine below_al ?_) | ((with_reducible refine below_set ?_ ?_); rotate_left; focus (first | (simp; done) | (simp; omega)))))
  have le_w_w1 : w.heap.size ≤ w1.heap.size := by omega
  try have lt_w_w1 : w.heap.size < w1.heap.size := by omega
  go_wp2_with fail
  go_loopw [7] (fun a W' => ∃ z : Int, a = .int .i64 z ∧ Cal.yOf n - 1 ≤ z ∧ z ≤ Cal.yOf n + 2 ∧ Below w.heap.size w W' ∧ w.heap.size < W'.heap.size ∧ w1.heap.size < W'.heap.size ∧ W'.cell? ⟨w.heap.size, 0, none⟩ = some (.int .i64 kd) ∧ W'.cell? ⟨w.heap.size, 1, none⟩ = some (.int .i64 mo) ∧ W'.cell? ⟨w.heap.size, 2, none⟩ = some (.int .i64 da) ∧ W'.cell? ⟨w.heap.size, 3, none⟩ = some (.int .i64 kk) ∧ W'.cell? ⟨w.heap.size, 4, none⟩ = some (.int .i64 off) ∧ W'.cell? ⟨w.heap.size, 5, none⟩ = some (.int .i64 sh) ∧ W'.cell? ⟨w.heap.size, 6, none⟩ = some (.int .i64 fr) ∧ W'.cell? ⟨w.heap.size, 7, none⟩ = some (.int .i64 to) ∧ W'.cell? ⟨w1.heap.size, 0, none⟩ = some (.int .i64 (Cal.yOf n)) ∧ Hid (∀ x, Cal.yOf n - 1 ≤ x → x < z → Rul.ins kd mo da kk off sh fr to x ≠ n)) (fun a _ => (Cal.yOf n + 2 - intOf a).toNat)
  case atStart =>
    refine ⟨_, rfl, by omega, by omega, by repeat (first | assumption | exact Below.refl _ _ | (with_reducible refine Below.drew ?_) | (with_reducible refine below_drewN' ?_ _) | (with_reducible refine below_al ?_) | ((with_reducible refine below_set ?_ ?_); rotate_left; focus (first | (simp; done) | (simp; omega)))), by simp; omega, by simp, ?_, ?_, ?_, ?_, ?_, ?_, ?_, ?_, ?_, fun x q1 q2 => by omega⟩
    all_goals (simp [*, go_sem]; done)
  case round =>
    clear hz1 hc1 hf1 hb1 hB1
    obtain ⟨z, rfl, z1, z2, hBw, s1, s2, c0, c1, c2, c3, c4, c5, c6, c7, cy, hq⟩ := hrel
    by_cases hz : z ≤ Cal.yOf n + 1
    · go_wp2_with fail
      refine (rruleIn_c _ _ _ _ _ _ _ _ _ hm.out _).mono ?_; rintro e w2 ⟨rfl, hb2⟩
      have hz2 := hb2.size
      obtain ⟨hc2, hf2⟩ := bcell hb2
      have hB2 := below_step (w := w) hb2 (by assumption)
      by_cases e : Rul.ins kd mo da kk off sh fr to z = n
      · have hp : Rul.pos (Rul.ins kd mo da kk off sh fr to z) = true := by rw [e]; exact Rul.pos_yes (by omega)
        have he : (Rul.ins kd mo da kk off sh fr to z == n) = true := beq_iff_eq.2 e
        have hb : B = true := by rw [← hR.out]; exact isB_yes n1 n2 z1 hz e
        subst hb
        clear e hR
        go_wp2_with fail
        go_ret
        exact ⟨rfl, hB2⟩
      · have he : (Rul.ins kd mo da kk off sh fr to z == n) = false := beq_eq_false_iff_ne.2 e
        have hq' : Hid (∀ x, Cal.yOf n - 1 ≤ x → x < z + 1 → Rul.ins kd mo da kk off sh fr to x ≠ n) := fun x x1 x2 => by
          by_cases c : x = z
          · subst c; exact e
          · exact hq.out x x1 (by omega)
        have d0 := (hc2 _ 0 s1).trans c0
        have d1 := (hc2 _ 1 s1).trans c1
        have d2 := (hc2 _ 2 s1).trans c2
        have d3 := (hc2 _ 3 s1).trans c3
        have d4 := (hc2 _ 4 s1).trans c4
        have d5 := (hc2 _ 5 s1).trans c5
        have d6 := (hc2 _ 6 s1).trans c6
        have d7 := (hc2 _ 7 s1).trans c7
        have dy := (hc2 _ 0 s2).trans cy
        have t1 : w.heap.size < w2.heap.size := by omega
        have t2 : w1.heap.size < w2.heap.size := by omega
        clear hc2 hf2 c0 c1 c2 c3 c4 c5 c6 c7 cy hq e
        cases hp : Rul.pos (Rul.ins kd mo da kk off sh fr to z)
        all_goals
          go_wp2_with fail
          go_roundw
          case rel => exact ⟨z + 1, rfl, by omega, by omega, hB2, t1, t2, d0, d1, d2, d3, d4, d5, d6, d7, dy, hq'⟩
          case measure => simp [intOf]; omega
    · have ez : z = Cal.yOf n + 2 := by omega
      have hb : B = false := by rw [← hR.out]; exact isB_no (by rw [← ez]; exact hq.out)
      subst hb
      go_wp2_with fail
      go_ret
      exact ⟨rfl, hBw⟩
theorem rruleIs_c (kd mo da kk off sh fr to n : Int) (hm : Rul.mayP kd mo da kk off sh fr to) (w : World) : Calls Tryd.prog 43 #[.agg #[.int .i64 kd, .int .i64 mo, .int .i64 da, .int .i64 kk, .int .i64 off, .int .i64 sh, .int .i64 fr, .int .i64 to], .int .i64 n] w fun e w' => e = .returned (.bool (Rul.isB kd mo da kk off sh fr to n)) ∧ Below w.heap.size w w' := by
  by_cases h : 1 ≤ n ∧ n ≤ 3652059
  · have A := Cal.day_of n h.1 h.2
    exact ris_in kd mo da kk off sh fr to n _ (show _ = _ from rfl) hm h.1 h.2 A.y1 A.y2 w
  · rw [isB_out (by omega)]; exact ris_out kd mo da kk off sh fr to n (show _ ∨ _ by omega) w
end Go.Proofs.YtlilffoflkkbdaaDoor
