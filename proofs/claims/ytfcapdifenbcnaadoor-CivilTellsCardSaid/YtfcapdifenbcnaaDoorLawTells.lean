/- The walk of CivilTells: for every day and number the law returns true. Conditions: the table of months' lengths lies as the program's text lays it. -/
import Derived.Test.YtfcapdifenbcnaaDoorCivShown
import Derived.Test.YtfcapdifenbcnaaDoorCalMore
import Derived.Deep.RegionHeld3
namespace Go.Proofs.YtfcapdifenbcnaaDoor
open Go.RowKit
set_option maxHeartbeats 4000000 in
set_option maxRecDepth 100000 in
theorem civilTells_walk (y m d n : Int) (w : World) (hL : Laid w) : Calls Tryd.prog 7 #[.agg #[.int .i64 y, .int .i64 m, .int .i64 d], .int .i64 n] w fun e w' => e = .returned (.bool true) ∧ Below w.heap.size w w' := by
  have hB : Below w.heap.size w w := Below.refl _ _
  go_enter Tryd.func7, Tryd.ntmps7
  go_wp2_with fail
  refine (shown04_c _ (hL.below (by repeat (first | assumption | exact Below.refl _ _ | (with_reducible refine Below.drew ?_) | (with_reducible refine below_drewN' ?_ _) | (with_reducible refine below_al ?_) | ((with_reducible refine below_set ?_ ?_); rotate_left; (simp; omega)))))).mono ?_; rintro e w1 ⟨rfl, hb1⟩
  have hz1 := hb1.size; (try simp at hz1); obtain ⟨hc1, hf1⟩ := bcell hb1; have hB1 := below_step (w := w) hb1 (by repeat (first | assumption | exact Below.refl _ _ | (with_reducible refine Below.drew ?_) | (with_reducible refine below_drewN' ?_ _) | (with_reducible refine below_al ?_) | ((with_reducible refine below_set ?_ ?_); rotate_left; (simp; omega))))
  have le_w_w1 : w.heap.size ≤ w1.heap.size := by omega
  try have lt_w_w1 : w.heap.size < w1.heap.size := by omega
  go_wp2_with fail
  refine (number_c _ _ _ _ (hL.below (by repeat (first | assumption | exact Below.refl _ _ | (with_reducible refine Below.drew ?_) | (with_reducible refine below_drewN' ?_ _) | (with_reducible refine below_al ?_) | ((with_reducible refine below_set ?_ ?_); rotate_left; (simp; omega)))))).mono ?_; rintro e w2 ⟨rfl, hb2⟩
  have hz2 := hb2.size; (try simp at hz2); obtain ⟨hc2, hf2⟩ := bcell hb2; have hB2 := below_step (w := w) hb2 (by repeat (first | assumption | exact Below.refl _ _ | (with_reducible refine Below.drew ?_) | (with_reducible refine below_drewN' ?_ _) | (with_reducible refine below_al ?_) | ((with_reducible refine below_set ?_ ?_); rotate_left; (simp; omega))))
  have le_w_w2 : w.heap.size ≤ w2.heap.size := by omega
  try have lt_w_w2 : w.heap.size < w2.heap.size := by omega
  have le_w1_w2 : w1.heap.size ≤ w2.heap.size := by omega
  try have lt_w1_w2 : w1.heap.size < w2.heap.size := by omega
  go_wp2_with fail
  refine (rnumber_c _ _ _ _).mono ?_; rintro e w3 ⟨rfl, hb3⟩
  have hz3 := hb3.size; (try simp at hz3); obtain ⟨hc3, hf3⟩ := bcell hb3; have hB3 := below_step (w := w) hb3 (by repeat (first | assumption | exact Below.refl _ _ | (with_reducible refine Below.drew ?_) | (with_reducible refine below_drewN' ?_ _) | (with_reducible refine below_al ?_) | ((with_reducible refine below_set ?_ ?_); rotate_left; (simp; omega))))
  have le_w_w3 : w.heap.size ≤ w3.heap.size := by omega
  try have lt_w_w3 : w.heap.size < w3.heap.size := by omega
  have le_w1_w3 : w1.heap.size ≤ w3.heap.size := by omega
  try have lt_w1_w3 : w1.heap.size < w3.heap.size := by omega
  have le_w2_w3 : w2.heap.size ≤ w3.heap.size := by omega
  try have lt_w2_w3 : w2.heap.size < w3.heap.size := by omega
  go_wp2_with fail
  refine (of_c _ _ (hL.below (by repeat (first | assumption | exact Below.refl _ _ | (with_reducible refine Below.drew ?_) | (with_reducible refine below_drewN' ?_ _) | (with_reducible refine below_al ?_) | ((with_reducible refine below_set ?_ ?_); rotate_left; (simp; omega)))))).mono ?_; rintro e w4 ⟨rfl, hb4⟩
  have hz4 := hb4.size; (try simp at hz4); obtain ⟨hc4, hf4⟩ := bcell hb4; have hB4 := below_step (w := w) hb4 (by repeat (first | assumption | exact Below.refl _ _ | (with_reducible refine Below.drew ?_) | (with_reducible refine below_drewN' ?_ _) | (with_reducible refine below_al ?_) | ((with_reducible refine below_set ?_ ?_); rotate_left; (simp; omega))))
  have le_w_w4 : w.heap.size ≤ w4.heap.size := by omega
  try have lt_w_w4 : w.heap.size < w4.heap.size := by omega
  have le_w1_w4 : w1.heap.size ≤ w4.heap.size := by omega
  try have lt_w1_w4 : w1.heap.size < w4.heap.size := by omega
  have le_w2_w4 : w2.heap.size ≤ w4.heap.size := by omega
  try have lt_w2_w4 : w2.heap.size < w4.heap.size := by omega
  have le_w3_w4 : w3.heap.size ≤ w4.heap.size := by omega
  try have lt_w3_w4 : w3.heap.size < w4.heap.size := by omega
  go_wp2_with fail
  refine (rof_c _ _).mono ?_; rintro e w5 ⟨rfl, hb5⟩
  have hz5 := hb5.size; (try simp at hz5); obtain ⟨hc5, hf5⟩ := bcell hb5; have hB5 := below_step (w := w) hb5 (by repeat (first | assumption | exact Below.refl _ _ | (with_reducible refine Below.drew ?_) | (with_reducible refine below_drewN' ?_ _) | (with_reducible refine below_al ?_) | ((with_reducible refine below_set ?_ ?_); rotate_left; (simp; omega))))
  have le_w_w5 : w.heap.size ≤ w5.heap.size := by omega
  try have lt_w_w5 : w.heap.size < w5.heap.size := by omega
  have le_w1_w5 : w1.heap.size ≤ w5.heap.size := by omega
  try have lt_w1_w5 : w1.heap.size < w5.heap.size := by omega
  have le_w2_w5 : w2.heap.size ≤ w5.heap.size := by omega
  try have lt_w2_w5 : w2.heap.size < w5.heap.size := by omega
  have le_w3_w5 : w3.heap.size ≤ w5.heap.size := by omega
  try have lt_w3_w5 : w3.heap.size < w5.heap.size := by omega
  have le_w4_w5 : w4.heap.size ≤ w5.heap.size := by omega
  try have lt_w4_w5 : w4.heap.size < w5.heap.size := by omega
  go_wp2_with fail
  clear hb1 hb2 hb3 hb4 hb5
  have t0 : ∀ w' : World, w' = (w5.alloc (Obj.cells #[Value.int IntKind.i64 (ofY n), Value.int IntKind.i64 (ofM n), Value.int IntKind.i64 (ofD n)] 34)).drew → (Below w.heap.size w w' ∧ w5.heap.size < w'.heap.size ∧ w'.cell? ⟨w.heap.size, 0, none⟩ = some (.int .i64 y) ∧ w'.cell? ⟨w.heap.size, 1, none⟩ = some (.int .i64 m) ∧ w'.cell? ⟨w.heap.size, 2, none⟩ = some (.int .i64 d) ∧
      w'.cell? ⟨w4.heap.size, 0, none⟩ = some (.int .i64 (ofY n)) ∧ w'.cell? ⟨w4.heap.size, 1, none⟩ = some (.int .i64 (ofM n)) ∧ w'.cell? ⟨w4.heap.size, 2, none⟩ = some (.int .i64 (ofD n)) ∧
      w'.cell? ⟨w5.heap.size, 0, none⟩ = some (.int .i64 (ofY n)) ∧ w'.cell? ⟨w5.heap.size, 1, none⟩ = some (.int .i64 (ofM n)) ∧ w'.cell? ⟨w5.heap.size, 2, none⟩ = some (.int .i64 (ofD n))) := by
    intro w' hw'; subst hw'
    refine ⟨?_, ?_, ?_, ?_, ?_, ?_, ?_, ?_, ?_, ?_, ?_⟩
    · repeat (first | assumption | exact Below.refl _ _ | (with_reducible refine Below.drew ?_) | (with_reducible refine below_drewN' ?_ _) | (with_reducible refine below_al ?_) | ((with_reducible refine below_set ?_ ?_); rotate_left; (simp; omega)))
    · (simp [go_sem]; done)
    all_goals (simp [*, go_sem]; done)
  go_region_held3 (fun w' => Below w.heap.size w w' ∧ w5.heap.size < w'.heap.size ∧ w'.cell? ⟨w.heap.size, 0, none⟩ = some (.int .i64 y) ∧ w'.cell? ⟨w.heap.size, 1, none⟩ = some (.int .i64 m) ∧ w'.cell? ⟨w.heap.size, 2, none⟩ = some (.int .i64 d) ∧
      w'.cell? ⟨w4.heap.size, 0, none⟩ = some (.int .i64 (ofY n)) ∧ w'.cell? ⟨w4.heap.size, 1, none⟩ = some (.int .i64 (ofM n)) ∧ w'.cell? ⟨w4.heap.size, 2, none⟩ = some (.int .i64 (ofD n)) ∧
      w'.cell? ⟨w5.heap.size, 0, none⟩ = some (.int .i64 (ofY n)) ∧ w'.cell? ⟨w5.heap.size, 1, none⟩ = some (.int .i64 (ofM n)) ∧ w'.cell? ⟨w5.heap.size, 2, none⟩ = some (.int .i64 (ofD n)))
    (first | exact t0 _ rfl | (go_split_ands; obtain ⟨hc', _⟩ := bcell hb; have hz' := hb.size; refine ⟨below_step hb (by assumption), by omega, ?_, ?_, ?_, ?_, ?_, ?_, ?_, ?_, ?_⟩; all_goals exact (hc' _ _ (by omega)).trans (by assumption)) | go_keep)
    (first
      | (go_at_call 25; refine (leap_c _ _).mono ?_; rintro e w' ⟨rfl, rfl⟩)
      | (go_at_call 26; refine (rleap_c _ _).mono ?_; rintro e w' ⟨rfl, rfl⟩)
      | (go_at_call 27; refine (length_c _ _ _ (hL.below (by go_split_ands; assumption))).mono ?_; rintro e w' ⟨rfl, rfl⟩)
      | (go_at_call 28; refine (rlength_c _ _ _).mono ?_; rintro e w' ⟨rfl, rfl⟩)
      | (go_at_call 31; refine (wd_c _ _).mono ?_; rintro e w' ⟨rfl, rfl⟩)
      | (go_at_call 18; refine (rwd_c _ _).mono ?_; rintro e w' ⟨rfl, rfl⟩)
      | (go_at_call 29; refine (may_c _ _ _ _ (hL.below (by go_split_ands; assumption))).mono ?_; rintro e wn ⟨rfl, hb⟩)
      | (go_at_call 30; refine (rmay_c _ _ _ _).mono ?_; rintro e wn ⟨rfl, hb⟩))
  go_wp2
  go_ret
  exact ⟨rfl, by go_split_ands; assumption⟩
end Go.Proofs.YtfcapdifenbcnaaDoor
