/- The walk of CivilNext: for every number the law returns true. Conditions: the table of months' lengths lies as the program's text lays it. -/
import Derived.Test.YtfcapdifenbcnaaDoorCivShown
import Derived.Test.YtfcapdifenbcnaaDoorCalMore
namespace Go.Proofs.YtfcapdifenbcnaaDoor
open Go.RowKit

theorem civilNext_out (n : Int) (h : n < 1 ∨ 3652059 ≤ n) (w : World) (hL : Laid w) : Calls Tryd.prog 9 #[.int .i64 n] w fun e w' => e = .returned (.bool true) ∧ Below w.heap.size w w' := by
  have hB : Below w.heap.size w w := Below.refl _ _
  rcases h with h | h
  · go_enter Tryd.func9, Tryd.ntmps9
    go_wp2_with fail
    refine (shown04_c _ (hL.below (by repeat (first | assumption | exact Below.refl _ _ | refine below_al ?_ | refine below_drewN' ?_ _ | (refine below_set ?_ ?_; rotate_left; (simp; omega)))))).mono ?_; rintro e w1 ⟨rfl, hb1⟩
    have hz1 := hb1.size; (try simp at hz1); obtain ⟨hc1, hf1⟩ := bcell hb1; have hB1 := below_step (w := w) hb1 (by repeat (first | assumption | exact Below.refl _ _ | refine below_al ?_ | refine below_drewN' ?_ _ | (refine below_set ?_ ?_; rotate_left; (simp; omega))))
    have le_w_w1 : w.heap.size ≤ w1.heap.size := by omega
    try have lt_w_w1 : w.heap.size < w1.heap.size := by omega
    go_wp2_with fail
    go_ret
    exact ⟨rfl, by repeat (first | assumption | exact Below.refl _ _ | refine below_al ?_ | refine below_drewN' ?_ _ | (refine below_set ?_ ?_; rotate_left; (simp; omega)))⟩
  · have h' : ¬ n < 1 := by omega
    go_enter Tryd.func9, Tryd.ntmps9
    go_wp2_with fail
    refine (shown04_c _ (hL.below (by repeat (first | assumption | exact Below.refl _ _ | refine below_al ?_ | refine below_drewN' ?_ _ | (refine below_set ?_ ?_; rotate_left; (simp; omega)))))).mono ?_; rintro e w1 ⟨rfl, hb1⟩
    have hz1 := hb1.size; (try simp at hz1); obtain ⟨hc1, hf1⟩ := bcell hb1; have hB1 := below_step (w := w) hb1 (by repeat (first | assumption | exact Below.refl _ _ | refine below_al ?_ | refine below_drewN' ?_ _ | (refine below_set ?_ ?_; rotate_left; (simp; omega))))
    have le_w_w1 : w.heap.size ≤ w1.heap.size := by omega
    try have lt_w_w1 : w.heap.size < w1.heap.size := by omega
    go_wp2_with fail
    go_ret
    exact ⟨rfl, by repeat (first | assumption | exact Below.refl _ _ | refine below_al ?_ | refine below_drewN' ?_ _ | (refine below_set ?_ ?_; rotate_left; (simp; omega)))⟩
set_option maxHeartbeats 1000000 in
theorem civilNext_mid (n : Int) (h1 : 1 ≤ n) (h2 : n < 3652059) (w : World) (hL : Laid w) (hk : Cal.dOf n ≠ Cal.len (Cal.yOf n) (Cal.mOf n)) : Calls Tryd.prog 9 #[.int .i64 n] w fun e w' => e = .returned (.bool true) ∧ Below w.heap.size w w' := by
  have D := Cal.day_of n h1 (by omega)
  have N := (Cal.next_mid D hk).of_eq
  obtain ⟨e1, e2, e3, e4⟩ := of_in h1 (by omega)
  obtain ⟨f1, f2, f3, f4⟩ := of_in (n := n + 1) (by omega) (by omega)
  rw [N.1] at f1; rw [N.2.1] at f2; rw [N.2.2] at f3
  have hd : (Cal.dOf n == Cal.len (Cal.yOf n) (Cal.mOf n)) = false := beq_eq_false_iff_ne.2 hk
  have hw := Cal.wd_next n
  obtain ⟨b1, b2⟩ := Cal.wd_bd n
  have d1 := D.d1
  have d2 : Cal.dOf n ≤ 31 := by have := Cal.len_bd (Cal.yOf n) (Cal.mOf n) D.m1 D.m2; have := D.d2; omega
  have hB : Below w.heap.size w w := Below.refl _ _
  clear N hk D
  go_enter Tryd.func9, Tryd.ntmps9
  go_wp2_with fail
  refine (shown04_c _ (hL.below (by repeat (first | assumption | exact Below.refl _ _ | refine below_al ?_ | refine below_drewN' ?_ _ | (refine below_set ?_ ?_; rotate_left; (simp; omega)))))).mono ?_; rintro e w1 ⟨rfl, hb1⟩
  have hz1 := hb1.size; (try simp at hz1); obtain ⟨hc1, hf1⟩ := bcell hb1; have hB1 := below_step (w := w) hb1 (by repeat (first | assumption | exact Below.refl _ _ | refine below_al ?_ | refine below_drewN' ?_ _ | (refine below_set ?_ ?_; rotate_left; (simp; omega))))
  have le_w_w1 : w.heap.size ≤ w1.heap.size := by omega
  try have lt_w_w1 : w.heap.size < w1.heap.size := by omega
  go_wp2_with fail
  refine (of_c _ _ (hL.below (by repeat (first | assumption | exact Below.refl _ _ | refine below_al ?_ | refine below_drewN' ?_ _ | (refine below_set ?_ ?_; rotate_left; (simp; omega)))))).mono ?_; rintro e w2 ⟨rfl, hb2⟩
  have hz2 := hb2.size; (try simp at hz2); obtain ⟨hc2, hf2⟩ := bcell hb2; have hB2 := below_step (w := w) hb2 (by repeat (first | assumption | exact Below.refl _ _ | refine below_al ?_ | refine below_drewN' ?_ _ | (refine below_set ?_ ?_; rotate_left; (simp; omega))))
  have le_w_w2 : w.heap.size ≤ w2.heap.size := by omega
  try have lt_w_w2 : w.heap.size < w2.heap.size := by omega
  have le_w1_w2 : w1.heap.size ≤ w2.heap.size := by omega
  try have lt_w1_w2 : w1.heap.size < w2.heap.size := by omega
  go_wp2_with fail
  refine (of_c _ _ (hL.below (by repeat (first | assumption | exact Below.refl _ _ | refine below_al ?_ | refine below_drewN' ?_ _ | (refine below_set ?_ ?_; rotate_left; (simp; omega)))))).mono ?_; rintro e w3 ⟨rfl, hb3⟩
  have hz3 := hb3.size; (try simp at hz3); obtain ⟨hc3, hf3⟩ := bcell hb3; have hB3 := below_step (w := w) hb3 (by repeat (first | assumption | exact Below.refl _ _ | refine below_al ?_ | refine below_drewN' ?_ _ | (refine below_set ?_ ?_; rotate_left; (simp; omega))))
  have le_w_w3 : w.heap.size ≤ w3.heap.size := by omega
  try have lt_w_w3 : w.heap.size < w3.heap.size := by omega
  have le_w1_w3 : w1.heap.size ≤ w3.heap.size := by omega
  try have lt_w1_w3 : w1.heap.size < w3.heap.size := by omega
  have le_w2_w3 : w2.heap.size ≤ w3.heap.size := by omega
  try have lt_w2_w3 : w2.heap.size < w3.heap.size := by omega
  go_wp2_with fail
  refine (wd_c _ _).mono ?_; rintro e w' ⟨rfl, rfl⟩
  go_wp2_with fail
  refine (wd_c _ _).mono ?_; rintro e w' ⟨rfl, rfl⟩
  go_wp2_with fail
  go_quiet ((go_at_call 28; exact Calls.quiet_of_same ((rlength_c _ _ _).mono fun _ _ h => ⟨h.1, h.2.symm⟩)))
  go_wp2_with fail
  go_ret
  exact ⟨rfl, by repeat (first | assumption | exact Below.refl _ _ | refine below_al ?_ | refine below_drewN' ?_ _ | (refine below_set ?_ ?_; rotate_left; (simp; omega)))⟩
set_option maxHeartbeats 1000000 in
theorem civilNext_month (n : Int) (h1 : 1 ≤ n) (h2 : n < 3652059) (w : World) (hL : Laid w) (hk : Cal.dOf n = Cal.len (Cal.yOf n) (Cal.mOf n)) (hm : Cal.mOf n ≠ 12) : Calls Tryd.prog 9 #[.int .i64 n] w fun e w' => e = .returned (.bool true) ∧ Below w.heap.size w w' := by
  have D := Cal.day_of n h1 (by omega)
  have N := (Cal.next_month D hk hm).of_eq
  obtain ⟨e1, e2, e3, e4⟩ := of_in h1 (by omega)
  obtain ⟨f1, f2, f3, f4⟩ := of_in (n := n + 1) (by omega) (by omega)
  rw [N.1] at f1; rw [N.2.1] at f2; rw [N.2.2] at f3
  have hd : (Cal.dOf n == Cal.len (Cal.yOf n) (Cal.mOf n)) = true := beq_iff_eq.2 hk
  have hm' : (Cal.mOf n == 12) = false := beq_eq_false_iff_ne.2 hm
  have hw := Cal.wd_next n
  obtain ⟨b1, b2⟩ := Cal.wd_bd n
  have d1 := D.d1
  have m1 := D.m1
  have m2 := D.m2
  have d2 : Cal.dOf n ≤ 31 := by have := Cal.len_bd (Cal.yOf n) (Cal.mOf n) D.m1 D.m2; have := D.d2; omega
  have hB : Below w.heap.size w w := Below.refl _ _
  clear N hk D hm
  go_enter Tryd.func9, Tryd.ntmps9
  go_wp2_with fail
  refine (shown04_c _ (hL.below (by repeat (first | assumption | exact Below.refl _ _ | refine below_al ?_ | refine below_drewN' ?_ _ | (refine below_set ?_ ?_; rotate_left; (simp; omega)))))).mono ?_; rintro e w1 ⟨rfl, hb1⟩
  have hz1 := hb1.size; (try simp at hz1); obtain ⟨hc1, hf1⟩ := bcell hb1; have hB1 := below_step (w := w) hb1 (by repeat (first | assumption | exact Below.refl _ _ | refine below_al ?_ | refine below_drewN' ?_ _ | (refine below_set ?_ ?_; rotate_left; (simp; omega))))
  have le_w_w1 : w.heap.size ≤ w1.heap.size := by omega
  try have lt_w_w1 : w.heap.size < w1.heap.size := by omega
  go_wp2_with fail
  refine (of_c _ _ (hL.below (by repeat (first | assumption | exact Below.refl _ _ | refine below_al ?_ | refine below_drewN' ?_ _ | (refine below_set ?_ ?_; rotate_left; (simp; omega)))))).mono ?_; rintro e w2 ⟨rfl, hb2⟩
  have hz2 := hb2.size; (try simp at hz2); obtain ⟨hc2, hf2⟩ := bcell hb2; have hB2 := below_step (w := w) hb2 (by repeat (first | assumption | exact Below.refl _ _ | refine below_al ?_ | refine below_drewN' ?_ _ | (refine below_set ?_ ?_; rotate_left; (simp; omega))))
  have le_w_w2 : w.heap.size ≤ w2.heap.size := by omega
  try have lt_w_w2 : w.heap.size < w2.heap.size := by omega
  have le_w1_w2 : w1.heap.size ≤ w2.heap.size := by omega
  try have lt_w1_w2 : w1.heap.size < w2.heap.size := by omega
  go_wp2_with fail
  refine (of_c _ _ (hL.below (by repeat (first | assumption | exact Below.refl _ _ | refine below_al ?_ | refine below_drewN' ?_ _ | (refine below_set ?_ ?_; rotate_left; (simp; omega)))))).mono ?_; rintro e w3 ⟨rfl, hb3⟩
  have hz3 := hb3.size; (try simp at hz3); obtain ⟨hc3, hf3⟩ := bcell hb3; have hB3 := below_step (w := w) hb3 (by repeat (first | assumption | exact Below.refl _ _ | refine below_al ?_ | refine below_drewN' ?_ _ | (refine below_set ?_ ?_; rotate_left; (simp; omega))))
  have le_w_w3 : w.heap.size ≤ w3.heap.size := by omega
  try have lt_w_w3 : w.heap.size < w3.heap.size := by omega
  have le_w1_w3 : w1.heap.size ≤ w3.heap.size := by omega
  try have lt_w1_w3 : w1.heap.size < w3.heap.size := by omega
  have le_w2_w3 : w2.heap.size ≤ w3.heap.size := by omega
  try have lt_w2_w3 : w2.heap.size < w3.heap.size := by omega
  go_wp2_with fail
  refine (wd_c _ _).mono ?_; rintro e w' ⟨rfl, rfl⟩
  go_wp2_with fail
  refine (wd_c _ _).mono ?_; rintro e w' ⟨rfl, rfl⟩
  go_wp2_with fail
  go_quiet ((go_at_call 28; exact Calls.quiet_of_same ((rlength_c _ _ _).mono fun _ _ h => ⟨h.1, h.2.symm⟩)))
  go_wp2_with fail
  go_ret
  exact ⟨rfl, by repeat (first | assumption | exact Below.refl _ _ | refine below_al ?_ | refine below_drewN' ?_ _ | (refine below_set ?_ ?_; rotate_left; (simp; omega)))⟩
set_option maxHeartbeats 1000000 in
theorem civilNext_year (n : Int) (h1 : 1 ≤ n) (h2 : n < 3652059) (w : World) (hL : Laid w) (hk : Cal.dOf n = Cal.len (Cal.yOf n) (Cal.mOf n)) (hm : Cal.mOf n = 12) : Calls Tryd.prog 9 #[.int .i64 n] w fun e w' => e = .returned (.bool true) ∧ Below w.heap.size w w' := by
  have D := Cal.day_of n h1 (by omega)
  have N := (Cal.next_year D hk hm h2).of_eq
  obtain ⟨e1, e2, e3, e4⟩ := of_in h1 (by omega)
  obtain ⟨f1, f2, f3, f4⟩ := of_in (n := n + 1) (by omega) (by omega)
  rw [N.1] at f1; rw [N.2.1] at f2; rw [N.2.2] at f3
  have hd : (Cal.dOf n == Cal.len (Cal.yOf n) (Cal.mOf n)) = true := beq_iff_eq.2 hk
  have hm' : (Cal.mOf n == 12) = true := beq_iff_eq.2 hm
  have m1 := D.m1
  have m2 := D.m2
  have hw := Cal.wd_next n
  obtain ⟨b1, b2⟩ := Cal.wd_bd n
  have d1 := D.d1
  have y1 := D.y1
  have y2 := D.y2
  have d2 : Cal.dOf n ≤ 31 := by have := Cal.len_bd (Cal.yOf n) (Cal.mOf n) D.m1 D.m2; have := D.d2; omega
  have hB : Below w.heap.size w w := Below.refl _ _
  clear N hk D hm
  go_enter Tryd.func9, Tryd.ntmps9
  go_wp2_with fail
  refine (shown04_c _ (hL.below (by repeat (first | assumption | exact Below.refl _ _ | refine below_al ?_ | refine below_drewN' ?_ _ | (refine below_set ?_ ?_; rotate_left; (simp; omega)))))).mono ?_; rintro e w1 ⟨rfl, hb1⟩
  have hz1 := hb1.size; (try simp at hz1); obtain ⟨hc1, hf1⟩ := bcell hb1; have hB1 := below_step (w := w) hb1 (by repeat (first | assumption | exact Below.refl _ _ | refine below_al ?_ | refine below_drewN' ?_ _ | (refine below_set ?_ ?_; rotate_left; (simp; omega))))
  have le_w_w1 : w.heap.size ≤ w1.heap.size := by omega
  try have lt_w_w1 : w.heap.size < w1.heap.size := by omega
  go_wp2_with fail
  refine (of_c _ _ (hL.below (by repeat (first | assumption | exact Below.refl _ _ | refine below_al ?_ | refine below_drewN' ?_ _ | (refine below_set ?_ ?_; rotate_left; (simp; omega)))))).mono ?_; rintro e w2 ⟨rfl, hb2⟩
  have hz2 := hb2.size; (try simp at hz2); obtain ⟨hc2, hf2⟩ := bcell hb2; have hB2 := below_step (w := w) hb2 (by repeat (first | assumption | exact Below.refl _ _ | refine below_al ?_ | refine below_drewN' ?_ _ | (refine below_set ?_ ?_; rotate_left; (simp; omega))))
  have le_w_w2 : w.heap.size ≤ w2.heap.size := by omega
  try have lt_w_w2 : w.heap.size < w2.heap.size := by omega
  have le_w1_w2 : w1.heap.size ≤ w2.heap.size := by omega
  try have lt_w1_w2 : w1.heap.size < w2.heap.size := by omega
  go_wp2_with fail
  refine (of_c _ _ (hL.below (by repeat (first | assumption | exact Below.refl _ _ | refine below_al ?_ | refine below_drewN' ?_ _ | (refine below_set ?_ ?_; rotate_left; (simp; omega)))))).mono ?_; rintro e w3 ⟨rfl, hb3⟩
  have hz3 := hb3.size; (try simp at hz3); obtain ⟨hc3, hf3⟩ := bcell hb3; have hB3 := below_step (w := w) hb3 (by repeat (first | assumption | exact Below.refl _ _ | refine below_al ?_ | refine below_drewN' ?_ _ | (refine below_set ?_ ?_; rotate_left; (simp; omega))))
  have le_w_w3 : w.heap.size ≤ w3.heap.size := by omega
  try have lt_w_w3 : w.heap.size < w3.heap.size := by omega
  have le_w1_w3 : w1.heap.size ≤ w3.heap.size := by omega
  try have lt_w1_w3 : w1.heap.size < w3.heap.size := by omega
  have le_w2_w3 : w2.heap.size ≤ w3.heap.size := by omega
  try have lt_w2_w3 : w2.heap.size < w3.heap.size := by omega
  go_wp2_with fail
  refine (wd_c _ _).mono ?_; rintro e w' ⟨rfl, rfl⟩
  go_wp2_with fail
  refine (wd_c _ _).mono ?_; rintro e w' ⟨rfl, rfl⟩
  go_wp2_with fail
  go_quiet ((go_at_call 28; exact Calls.quiet_of_same ((rlength_c _ _ _).mono fun _ _ h => ⟨h.1, h.2.symm⟩)))
  go_wp2_with fail
  go_ret
  exact ⟨rfl, by repeat (first | assumption | exact Below.refl _ _ | refine below_al ?_ | refine below_drewN' ?_ _ | (refine below_set ?_ ?_; rotate_left; (simp; omega)))⟩
theorem civilNext_walk (n : Int) (w : World) (hL : Laid w) : Calls Tryd.prog 9 #[.int .i64 n] w fun e w' => e = .returned (.bool true) ∧ Below w.heap.size w w' := by
  by_cases h : 1 ≤ n ∧ n < 3652059
  · by_cases hk : Cal.dOf n = Cal.len (Cal.yOf n) (Cal.mOf n)
    · by_cases hm : Cal.mOf n = 12
      · exact civilNext_year n h.1 h.2 w hL hk hm
      · exact civilNext_month n h.1 h.2 w hL hk hm
    · exact civilNext_mid n h.1 h.2 w hL hk
  · exact civilNext_out n (by omega) w hL
end Go.Proofs.YtfcapdifenbcnaaDoor
