/- The walk of CalWeeks: the law returns true for every input. Conditions: the tables of months' lengths and of the week all of whose days are off lie as the program's text lays them. -/
import Derived.Test.YtlilffoflkkbdaaDoorCal0
import Derived.Test.YtlilffoflkkbdaaDoorCalW
namespace Go.Proofs.YtlilffoflkkbdaaDoor
open Go.RowKit
set_option linter.unusedVariables false
set_option linter.unusedSimpArgs false
theorem isA_c (o0 o1 o2 o3 o4 o5 o6 : Bool) (n : Int) (v : Bool) (hv : Hid ((wkA o0 o1 o2 o3 o4 o5 o6).is n = v)) (w : World) (hL : Laid w) : Calls Tryd.prog 36 #[.agg #[.bool o0, .bool o1, .bool o2, .bool o3, .bool o4, .bool o5, .bool o6, .slice none 0 0, .slice none 0 0], .int .i64 n] w fun e w' => e = .returned (.bool v) ∧ Below w.heap.size w w' := by
  rw [← hv.out]; exact calIs_c (wkA o0 o1 o2 o3 o4 o5 o6) n (wkA_ok _ _ _ _ _ _ _) w hL (wkA_in _ _ _ _ _ _ _ _)
theorem isB_c (o0 o1 o2 o3 o4 o5 o6 : Bool) (D : Option Addr) (cD : Nat) (m n : Int) (v : Bool) (hv : Hid ((wkB o0 o1 o2 o3 o4 o5 o6 D cD m).is n = v)) (w : World) (hL : Laid w) (hD : DIn w D [m]) : Calls Tryd.prog 36 #[.agg #[.bool o0, .bool o1, .bool o2, .bool o3, .bool o4, .bool o5, .bool o6, .slice none 0 0, .slice D 1 cD], .int .i64 n] w fun e w' => e = .returned (.bool v) ∧ Below w.heap.size w w' := by
  rw [← hv.out]; exact calIs_c (wkB o0 o1 o2 o3 o4 o5 o6 D cD m) n (wkB_ok _ _ _ _ _ _ _ _ _ _) w hL ⟨Or.inl rfl, hD⟩
theorem din_one (w : World) (m : Int) : DIn (w.alloc (.cells #[.int .i64 m] 3)) (some ⟨w.heap.size, 0, none⟩) [m] := Or.inr ⟨w.heap.size, 0, rfl, by simp, fun j hj => by
  obtain rfl : j = 0 := (by simpa using hj)
  simp⟩
set_option maxRecDepth 100000 in
set_option maxHeartbeats 8000000 in
theorem calWeeks_dn (o0 o1 o2 o3 o4 o5 o6 : Bool) (n m : Int) (dn : dayB n = false) (w : World) (hL : Laid w) (hN : AllOff w) : Calls Tryd.prog 13 #[.agg #[.bool o0, .bool o1, .bool o2, .bool o3, .bool o4, .bool o5, .bool o6], .int .i64 n, .int .i64 m] w fun e w' => e = .returned (.bool true) ∧ Below w.heap.size w w' := by
  have hB : Below w.heap.size w w := Below.refl _ _
  go_enter Tryd.func13, Tryd.ntmps13
  (try go_simp); (repeat (first | ((with_reducible refine wp_region_app ?_); simp only [List.cons_append, List.nil_append]) | go_values | go_skip | go_guarded | go_step | go_upon))
  refine (shown13_c _ (hL.below (by repeat (first | assumption | exact Below.refl _ _ | (with_reducible refine Below.drew ?_) | (with_reducible refine below_drewN' ?_ _) | (with_reducible refine below_al ?_) | ((with_reducible refine below_set ?_ ?_); rotate_left; focus (first | (simp; done) | (simp; omega)))))) (hN.below (by repeat (first | assumption | exact Below.refl _ _ | (with_reducible refine Below.drew ?_) | (with_reducible refine below_drewN' ?_ _) | (with_reducible refine below_al ?_) | ((with_reducible refine below_set ?_ ?_); rotate_left; focus (first | (simp; done) | (simp; omega))))))).mono ?_; rintro e w1 ⟨rfl, hb1⟩
  have hz1 := hb1.size; (try simp at hz1); obtain ⟨hc1, hf1⟩ := bcell hb1; have hB1 := below_step (w := w) hb1 (by repeat (first | assumption | exact Below.refl _ _ | (with_reducible refine Below.drew ?_) | (with_reducible refine below_drewN' ?_ _) | (with_reducible refine below_al ?_) | ((with_reducible refine below_set ?_ ?_); rotate_left; focus (first | (simp; done) | (simp; omega)))))
  have le_w_w1 : w.heap.size ≤ w1.heap.size := by omega
  try have lt_w_w1 : w.heap.size < w1.heap.size := by omega
  (try go_simp); (repeat (first | ((with_reducible refine wp_region_app ?_); simp only [List.cons_append, List.nil_append]) | go_values | go_skip | go_guarded | go_step | go_upon))
  refine (rday_c n _).mono ?_; rintro e w' ⟨rfl, rfl⟩
  (try go_simp); (repeat (first | ((with_reducible refine wp_region_app ?_); simp only [List.cons_append, List.nil_append]) | go_values | go_skip | go_guarded | go_step | go_upon))
  go_ret
  exact ⟨rfl, by repeat (first | assumption | exact Below.refl _ _ | (with_reducible refine Below.drew ?_) | (with_reducible refine below_drewN' ?_ _) | (with_reducible refine below_al ?_) | ((with_reducible refine below_set ?_ ?_); rotate_left; focus (first | (simp; done) | (simp; omega))))⟩
set_option maxRecDepth 100000 in
set_option maxHeartbeats 8000000 in
theorem calWeeks_dm (o0 o1 o2 o3 o4 o5 o6 : Bool) (n m : Int) (dn : dayB n = true) (dm : dayB m = false) (w : World) (hL : Laid w) (hN : AllOff w) : Calls Tryd.prog 13 #[.agg #[.bool o0, .bool o1, .bool o2, .bool o3, .bool o4, .bool o5, .bool o6], .int .i64 n, .int .i64 m] w fun e w' => e = .returned (.bool true) ∧ Below w.heap.size w w' := by
  have hB : Below w.heap.size w w := Below.refl _ _
  go_enter Tryd.func13, Tryd.ntmps13
  (try go_simp); (repeat (first | ((with_reducible refine wp_region_app ?_); simp only [List.cons_append, List.nil_append]) | go_values | go_skip | go_guarded | go_step | go_upon))
  refine (shown13_c _ (hL.below (by repeat (first | assumption | exact Below.refl _ _ | (with_reducible refine Below.drew ?_) | (with_reducible refine below_drewN' ?_ _) | (with_reducible refine below_al ?_) | ((with_reducible refine below_set ?_ ?_); rotate_left; focus (first | (simp; done) | (simp; omega)))))) (hN.below (by repeat (first | assumption | exact Below.refl _ _ | (with_reducible refine Below.drew ?_) | (with_reducible refine below_drewN' ?_ _) | (with_reducible refine below_al ?_) | ((with_reducible refine below_set ?_ ?_); rotate_left; focus (first | (simp; done) | (simp; omega))))))).mono ?_; rintro e w1 ⟨rfl, hb1⟩
  have hz1 := hb1.size; (try simp at hz1); obtain ⟨hc1, hf1⟩ := bcell hb1; have hB1 := below_step (w := w) hb1 (by repeat (first | assumption | exact Below.refl _ _ | (with_reducible refine Below.drew ?_) | (with_reducible refine below_drewN' ?_ _) | (with_reducible refine below_al ?_) | ((with_reducible refine below_set ?_ ?_); rotate_left; focus (first | (simp; done) | (simp; omega)))))
  have le_w_w1 : w.heap.size ≤ w1.heap.size := by omega
  try have lt_w_w1 : w.heap.size < w1.heap.size := by omega
  (try go_simp); (repeat (first | ((with_reducible refine wp_region_app ?_); simp only [List.cons_append, List.nil_append]) | go_values | go_skip | go_guarded | go_step | go_upon))
  refine (rday_c n _).mono ?_; rintro e w' ⟨rfl, rfl⟩
  (try go_simp); (repeat (first | ((with_reducible refine wp_region_app ?_); simp only [List.cons_append, List.nil_append]) | go_values | go_skip | go_guarded | go_step | go_upon))
  refine (rday_c m _).mono ?_; rintro e w' ⟨rfl, rfl⟩
  (try go_simp); (repeat (first | ((with_reducible refine wp_region_app ?_); simp only [List.cons_append, List.nil_append]) | go_values | go_skip | go_guarded | go_step | go_upon))
  go_ret
  exact ⟨rfl, by repeat (first | assumption | exact Below.refl _ _ | (with_reducible refine Below.drew ?_) | (with_reducible refine below_drewN' ?_ _) | (with_reducible refine below_al ?_) | ((with_reducible refine below_set ?_ ?_); rotate_left; focus (first | (simp; done) | (simp; omega))))⟩
set_option maxRecDepth 100000 in
set_option maxHeartbeats 8000000 in
theorem calWeeks_may (o0 o1 o2 o3 o4 o5 o6 : Bool) (n m : Int) (dn : dayB n = true) (dm : dayB m = true) (hm : (wkA o0 o1 o2 o3 o4 o5 o6).may = false) (w : World) (hL : Laid w) (hN : AllOff w) : Calls Tryd.prog 13 #[.agg #[.bool o0, .bool o1, .bool o2, .bool o3, .bool o4, .bool o5, .bool o6], .int .i64 n, .int .i64 m] w fun e w' => e = .returned (.bool true) ∧ Below w.heap.size w w' := by
  have hB : Below w.heap.size w w := Below.refl _ _
  go_enter Tryd.func13, Tryd.ntmps13
  (try go_simp); (repeat (first | ((with_reducible refine wp_region_app ?_); simp only [List.cons_append, List.nil_append]) | go_values | go_skip | go_guarded | go_step | go_upon))
  refine (shown13_c _ (hL.below (by repeat (first | assumption | exact Below.refl _ _ | (with_reducible refine Below.drew ?_) | (with_reducible refine below_drewN' ?_ _) | (with_reducible refine below_al ?_) | ((with_reducible refine below_set ?_ ?_); rotate_left; focus (first | (simp; done) | (simp; omega)))))) (hN.below (by repeat (first | assumption | exact Below.refl _ _ | (with_reducible refine Below.drew ?_) | (with_reducible refine below_drewN' ?_ _) | (with_reducible refine below_al ?_) | ((with_reducible refine below_set ?_ ?_); rotate_left; focus (first | (simp; done) | (simp; omega))))))).mono ?_; rintro e w1 ⟨rfl, hb1⟩
  have hz1 := hb1.size; (try simp at hz1); obtain ⟨hc1, hf1⟩ := bcell hb1; have hB1 := below_step (w := w) hb1 (by repeat (first | assumption | exact Below.refl _ _ | (with_reducible refine Below.drew ?_) | (with_reducible refine below_drewN' ?_ _) | (with_reducible refine below_al ?_) | ((with_reducible refine below_set ?_ ?_); rotate_left; focus (first | (simp; done) | (simp; omega)))))
  have le_w_w1 : w.heap.size ≤ w1.heap.size := by omega
  try have lt_w_w1 : w.heap.size < w1.heap.size := by omega
  (try go_simp); (repeat (first | ((with_reducible refine wp_region_app ?_); simp only [List.cons_append, List.nil_append]) | go_values | go_skip | go_guarded | go_step | go_upon))
  refine (rday_c n _).mono ?_; rintro e w' ⟨rfl, rfl⟩
  (try go_simp); (repeat (first | ((with_reducible refine wp_region_app ?_); simp only [List.cons_append, List.nil_append]) | go_values | go_skip | go_guarded | go_step | go_upon))
  refine (rday_c m _).mono ?_; rintro e w' ⟨rfl, rfl⟩
  (try go_simp); (repeat (first | ((with_reducible refine wp_region_app ?_); simp only [List.cons_append, List.nil_append]) | go_values | go_skip | go_guarded | go_step | go_upon))
  refine (rcalMay_c (wkA o0 o1 o2 o3 o4 o5 o6) _ (wkA_in _ _ _ _ _ _ _ _)).mono ?_; rintro e w2 ⟨rfl, hb2⟩
  have hz2 := hb2.size; (try simp at hz2); obtain ⟨hc2, hf2⟩ := bcell hb2; have hB2 := below_step (w := w) hb2 (by repeat (first | assumption | exact Below.refl _ _ | (with_reducible refine Below.drew ?_) | (with_reducible refine below_drewN' ?_ _) | (with_reducible refine below_al ?_) | ((with_reducible refine below_set ?_ ?_); rotate_left; focus (first | (simp; done) | (simp; omega)))))
  have le_w_w2 : w.heap.size ≤ w2.heap.size := by omega
  try have lt_w_w2 : w.heap.size < w2.heap.size := by omega
  have le_w1_w2 : w1.heap.size ≤ w2.heap.size := by omega
  try have lt_w1_w2 : w1.heap.size < w2.heap.size := by omega
  (try go_simp); (repeat (first | ((with_reducible refine wp_region_app ?_); simp only [List.cons_append, List.nil_append]) | go_values | go_skip | go_guarded | go_step | go_upon))
  go_ret
  exact ⟨rfl, by repeat (first | assumption | exact Below.refl _ _ | (with_reducible refine Below.drew ?_) | (with_reducible refine below_drewN' ?_ _) | (with_reducible refine below_al ?_) | ((with_reducible refine below_set ?_ ?_); rotate_left; focus (first | (simp; done) | (simp; omega))))⟩
set_option maxRecDepth 100000 in
set_option maxHeartbeats 8000000 in
theorem calWeeks_td (o0 o1 o2 o3 o4 o5 o6 : Bool) (n m : Int) (dn : dayB n = true) (dm : dayB m = true) (hm : (wkA o0 o1 o2 o3 o4 o5 o6).may = true) (k : Nat) (hk7 : k < 7) (hk : Hid (Cal.wd n = k)) (hv : (wkA o0 o1 o2 o3 o4 o5 o6).off k = true) (hnm : (n == m) = false) (w : World) (hL : Laid w) (hN : AllOff w) : Calls Tryd.prog 13 #[.agg #[.bool o0, .bool o1, .bool o2, .bool o3, .bool o4, .bool o5, .bool o6], .int .i64 n, .int .i64 m] w fun e w' => e = .returned (.bool true) ∧ Below w.heap.size w w' := by
  have hB : Below w.heap.size w w := Below.refl _ _
  go_enter Tryd.func13, Tryd.ntmps13
  have eA : Hid ((wkA o0 o1 o2 o3 o4 o5 o6).is n = false) := Lib.hid (by rw [wkA_is, dn, hk.out, hv]; rfl)
  have e0 : Hid ((wkA o0 o1 o2 o3 o4 o5 o6).is 0 = false) := Lib.hid (CalP.is_out (by omega))
  have e1 : Hid ((wkA o0 o1 o2 o3 o4 o5 o6).is 3652060 = false) := Lib.hid (CalP.is_out (by omega))
  have eM : ∀ D cD, Hid ((wkB o0 o1 o2 o3 o4 o5 o6 D cD m).is m = false) := fun D cD => Lib.hid (by rw [wkB_is]; simp)
  have eB : ∀ D cD, (n == m) = false → Hid ((wkB o0 o1 o2 o3 o4 o5 o6 D cD m).is n = false) := fun D cD h => Lib.hid (by rw [wkB_is, eA.out, h]; rfl)
  have hk0z : (0 : Int) ≤ (k : Int) := by omega
  have hk7z : (k : Int) < 7 := by omega
  have hw := week_at (wkA o0 o1 o2 o3 o4 o5 o6) k hk7; rw [hv] at hw; have HW := Lib.hid hw; clear hw
  (try go_simp); (repeat (first | ((with_reducible refine wp_region_app ?_); simp only [List.cons_append, List.nil_append]) | go_values | go_skip | go_guarded | go_step | go_upon))
  refine (shown13_c _ (hL.below (by repeat (first | assumption | exact Below.refl _ _ | (with_reducible refine Below.drew ?_) | (with_reducible refine below_drewN' ?_ _) | (with_reducible refine below_al ?_) | ((with_reducible refine below_set ?_ ?_); rotate_left; focus (first | (simp; done) | (simp; omega)))))) (hN.below (by repeat (first | assumption | exact Below.refl _ _ | (with_reducible refine Below.drew ?_) | (with_reducible refine below_drewN' ?_ _) | (with_reducible refine below_al ?_) | ((with_reducible refine below_set ?_ ?_); rotate_left; focus (first | (simp; done) | (simp; omega))))))).mono ?_; rintro e w1 ⟨rfl, hb1⟩
  have hz1 := hb1.size; (try simp at hz1); obtain ⟨hc1, hf1⟩ := bcell hb1; have hB1 := below_step (w := w) hb1 (by repeat (first | assumption | exact Below.refl _ _ | (with_reducible refine Below.drew ?_) | (with_reducible refine below_drewN' ?_ _) | (with_reducible refine below_al ?_) | ((with_reducible refine below_set ?_ ?_); rotate_left; focus (first | (simp; done) | (simp; omega)))))
  have le_w_w1 : w.heap.size ≤ w1.heap.size := by omega
  try have lt_w_w1 : w.heap.size < w1.heap.size := by omega
  (try go_simp); (repeat (first | ((with_reducible refine wp_region_app ?_); simp only [List.cons_append, List.nil_append]) | go_values | go_skip | go_guarded | go_step | go_upon))
  refine (rday_c n _).mono ?_; rintro e w' ⟨rfl, rfl⟩
  (try go_simp); (repeat (first | ((with_reducible refine wp_region_app ?_); simp only [List.cons_append, List.nil_append]) | go_values | go_skip | go_guarded | go_step | go_upon))
  refine (rday_c m _).mono ?_; rintro e w' ⟨rfl, rfl⟩
  (try go_simp); (repeat (first | ((with_reducible refine wp_region_app ?_); simp only [List.cons_append, List.nil_append]) | go_values | go_skip | go_guarded | go_step | go_upon))
  refine (rcalMay_c (wkA o0 o1 o2 o3 o4 o5 o6) _ (wkA_in _ _ _ _ _ _ _ _)).mono ?_; rintro e w2 ⟨rfl, hb2⟩
  have hz2 := hb2.size; (try simp at hz2); obtain ⟨hc2, hf2⟩ := bcell hb2; have hB2 := below_step (w := w) hb2 (by repeat (first | assumption | exact Below.refl _ _ | (with_reducible refine Below.drew ?_) | (with_reducible refine below_drewN' ?_ _) | (with_reducible refine below_al ?_) | ((with_reducible refine below_set ?_ ?_); rotate_left; focus (first | (simp; done) | (simp; omega)))))
  have le_w_w2 : w.heap.size ≤ w2.heap.size := by omega
  try have lt_w_w2 : w.heap.size < w2.heap.size := by omega
  have le_w1_w2 : w1.heap.size ≤ w2.heap.size := by omega
  try have lt_w1_w2 : w1.heap.size < w2.heap.size := by omega
  (try go_simp); (repeat (first | ((with_reducible refine wp_region_app ?_); simp only [List.cons_append, List.nil_append]) | go_values | go_skip | go_guarded | go_step | go_upon))
  refine (rwd_c n _).mono ?_; rintro e w' ⟨rfl, rfl⟩
  rw [hk.out]
  (try go_simp); (repeat (first | ((with_reducible refine wp_region_app ?_); simp only [List.cons_append, List.nil_append]) | go_values | go_skip | go_guarded | go_step | go_upon))
  generalize hW : ((w2.alloc _).alloc _) = w3
  have hB3 : Below w.heap.size w w3 := by rw [← hW]; exact below_al (below_al hB2)
  have f0 : w3.cell? ⟨w.heap.size, k, none⟩ = some (.bool true) := by rw [← hW]; exact cell_al (cell_al (below_some hb2 _ _ _ (cell_al (below_some hb1 _ _ _ (cell_nu rfl HW.out)))))
  have fc0 : w3.cell? ⟨w1.heap.size, 0, none⟩ = some (.bool o0) := by rw [← hW]; exact cell_al (cell_al (below_some hb2 _ _ _ (cell_nu rfl rfl)))
  have fd0 : w3.cell? ⟨w2.heap.size + 1, 0, none⟩ = some (.bool o0) := by rw [← hW]; exact cell_nu (by simp) rfl
  have fc1 : w3.cell? ⟨w1.heap.size, 1, none⟩ = some (.bool o1) := by rw [← hW]; exact cell_al (cell_al (below_some hb2 _ _ _ (cell_nu rfl rfl)))
  have fd1 : w3.cell? ⟨w2.heap.size + 1, 1, none⟩ = some (.bool o1) := by rw [← hW]; exact cell_nu (by simp) rfl
  have fc2 : w3.cell? ⟨w1.heap.size, 2, none⟩ = some (.bool o2) := by rw [← hW]; exact cell_al (cell_al (below_some hb2 _ _ _ (cell_nu rfl rfl)))
  have fd2 : w3.cell? ⟨w2.heap.size + 1, 2, none⟩ = some (.bool o2) := by rw [← hW]; exact cell_nu (by simp) rfl
  have fc3 : w3.cell? ⟨w1.heap.size, 3, none⟩ = some (.bool o3) := by rw [← hW]; exact cell_al (cell_al (below_some hb2 _ _ _ (cell_nu rfl rfl)))
  have fd3 : w3.cell? ⟨w2.heap.size + 1, 3, none⟩ = some (.bool o3) := by rw [← hW]; exact cell_nu (by simp) rfl
  have fc4 : w3.cell? ⟨w1.heap.size, 4, none⟩ = some (.bool o4) := by rw [← hW]; exact cell_al (cell_al (below_some hb2 _ _ _ (cell_nu rfl rfl)))
  have fd4 : w3.cell? ⟨w2.heap.size + 1, 4, none⟩ = some (.bool o4) := by rw [← hW]; exact cell_nu (by simp) rfl
  have fc5 : w3.cell? ⟨w1.heap.size, 5, none⟩ = some (.bool o5) := by rw [← hW]; exact cell_al (cell_al (below_some hb2 _ _ _ (cell_nu rfl rfl)))
  have fd5 : w3.cell? ⟨w2.heap.size + 1, 5, none⟩ = some (.bool o5) := by rw [← hW]; exact cell_nu (by simp) rfl
  have fc6 : w3.cell? ⟨w1.heap.size, 6, none⟩ = some (.bool o6) := by rw [← hW]; exact cell_al (cell_al (below_some hb2 _ _ _ (cell_nu rfl rfl)))
  have fd6 : w3.cell? ⟨w2.heap.size + 1, 6, none⟩ = some (.bool o6) := by rw [← hW]; exact cell_nu (by simp) rfl
  have fc7 : w3.cell? ⟨w1.heap.size, 7, none⟩ = some (.slice none 0 0) := by rw [← hW]; exact cell_al (cell_al (below_some hb2 _ _ _ (cell_nu rfl rfl)))
  have fd7 : w3.cell? ⟨w2.heap.size + 1, 7, none⟩ = some (.slice none 0 0) := by rw [← hW]; exact cell_nu (by simp) rfl
  have fc8 : w3.cell? ⟨w1.heap.size, 8, none⟩ = some (.slice none 0 0) := by rw [← hW]; exact cell_al (cell_al (below_some hb2 _ _ _ (cell_nu rfl rfl)))
  have fd8 : w3.cell? ⟨w2.heap.size + 1, 8, none⟩ = some (.slice (some ⟨w2.heap.size, 0, none⟩) 1 1) := by rw [← hW]; exact cell_nu (by simp) rfl
  have hD3 := Lib.hid (show DIn w3 (some ⟨w2.heap.size, 0, none⟩) [m] by rw [← hW]; exact (din_one w2 m).below (below_al (Below.refl _ _)))
  have hL3 := Lib.hid (hL.below hB3)
  clear hW hL hN hb1 hb2 hc1 hf1 hc2 hf2 hB1 hB2 hz1 hz2 le_w_w1 lt_w_w1 le_w_w2 lt_w_w2 le_w1_w2 lt_w1_w2 HW
  have cl0 : w3.cell? ⟨w.heap.size, k, none⟩ = some (.bool true) := f0
  have cl1 : w3.cell? ⟨w1.heap.size, 0, none⟩ = some (.bool o0) := fc0
  have cl2 : w3.cell? ⟨w2.heap.size + 1, 0, none⟩ = some (.bool o0) := fd0
  have cl3 : w3.cell? ⟨w1.heap.size, 1, none⟩ = some (.bool o1) := fc1
  have cl4 : w3.cell? ⟨w2.heap.size + 1, 1, none⟩ = some (.bool o1) := fd1
  have cl5 : w3.cell? ⟨w1.heap.size, 2, none⟩ = some (.bool o2) := fc2
  have cl6 : w3.cell? ⟨w2.heap.size + 1, 2, none⟩ = some (.bool o2) := fd2
  have cl7 : w3.cell? ⟨w1.heap.size, 3, none⟩ = some (.bool o3) := fc3
  have cl8 : w3.cell? ⟨w2.heap.size + 1, 3, none⟩ = some (.bool o3) := fd3
  have cl9 : w3.cell? ⟨w1.heap.size, 4, none⟩ = some (.bool o4) := fc4
  have cl10 : w3.cell? ⟨w2.heap.size + 1, 4, none⟩ = some (.bool o4) := fd4
  have cl11 : w3.cell? ⟨w1.heap.size, 5, none⟩ = some (.bool o5) := fc5
  have cl12 : w3.cell? ⟨w2.heap.size + 1, 5, none⟩ = some (.bool o5) := fd5
  have cl13 : w3.cell? ⟨w1.heap.size, 6, none⟩ = some (.bool o6) := fc6
  have cl14 : w3.cell? ⟨w2.heap.size + 1, 6, none⟩ = some (.bool o6) := fd6
  have cl15 : w3.cell? ⟨w1.heap.size, 7, none⟩ = some (.slice none 0 0) := fc7
  have cl16 : w3.cell? ⟨w2.heap.size + 1, 7, none⟩ = some (.slice none 0 0) := fd7
  have cl17 : w3.cell? ⟨w1.heap.size, 8, none⟩ = some (.slice none 0 0) := fc8
  have cl18 : w3.cell? ⟨w2.heap.size + 1, 8, none⟩ = some (.slice (some ⟨w2.heap.size, 0, none⟩) 1 1) := fd8
  have hRefl : Below w3.heap.size w3 w3 := Below.refl _ _
  have HS : Hid (∀ W, Below w3.heap.size w3 W → (fun W' => Below w3.heap.size w3 W' ∧ W'.cell? ⟨w.heap.size, k, none⟩ = some (.bool true) ∧ W'.cell? ⟨w1.heap.size, 0, none⟩ = some (.bool o0) ∧ W'.cell? ⟨w2.heap.size + 1, 0, none⟩ = some (.bool o0) ∧ W'.cell? ⟨w1.heap.size, 1, none⟩ = some (.bool o1) ∧ W'.cell? ⟨w2.heap.size + 1, 1, none⟩ = some (.bool o1) ∧ W'.cell? ⟨w1.heap.size, 2, none⟩ = some (.bool o2) ∧ W'.cell? ⟨w2.heap.size + 1, 2, none⟩ = some (.bool o2) ∧ W'.cell? ⟨w1.heap.size, 3, none⟩ = some (.bool o3) ∧ W'.cell? ⟨w2.heap.size + 1, 3, none⟩ = some (.bool o3) ∧ W'.cell? ⟨w1.heap.size, 4, none⟩ = some (.bool o4) ∧ W'.cell? ⟨w2.heap.size + 1, 4, none⟩ = some (.bool o4) ∧ W'.cell? ⟨w1.heap.size, 5, none⟩ = some (.bool o5) ∧ W'.cell? ⟨w2.heap.size + 1, 5, none⟩ = some (.bool o5) ∧ W'.cell? ⟨w1.heap.size, 6, none⟩ = some (.bool o6) ∧ W'.cell? ⟨w2.heap.size + 1, 6, none⟩ = some (.bool o6) ∧ W'.cell? ⟨w1.heap.size, 7, none⟩ = some (.slice none 0 0) ∧ W'.cell? ⟨w2.heap.size + 1, 7, none⟩ = some (.slice none 0 0) ∧ W'.cell? ⟨w1.heap.size, 8, none⟩ = some (.slice none 0 0) ∧ W'.cell? ⟨w2.heap.size + 1, 8, none⟩ = some (.slice (some ⟨w2.heap.size, 0, none⟩) 1 1)) W) := Lib.hid (fun W h => ⟨h, below_some h _ _ _ cl0, below_some h _ _ _ cl1, below_some h _ _ _ cl2, below_some h _ _ _ cl3, below_some h _ _ _ cl4, below_some h _ _ _ cl5, below_some h _ _ _ cl6, below_some h _ _ _ cl7, below_some h _ _ _ cl8, below_some h _ _ _ cl9, below_some h _ _ _ cl10, below_some h _ _ _ cl11, below_some h _ _ _ cl12, below_some h _ _ _ cl13, below_some h _ _ _ cl14, below_some h _ _ _ cl15, below_some h _ _ _ cl16, below_some h _ _ _ cl17, below_some h _ _ _ cl18⟩)
  go_region_held3 (fun W' => Below w3.heap.size w3 W' ∧ W'.cell? ⟨w.heap.size, k, none⟩ = some (.bool true) ∧ W'.cell? ⟨w1.heap.size, 0, none⟩ = some (.bool o0) ∧ W'.cell? ⟨w2.heap.size + 1, 0, none⟩ = some (.bool o0) ∧ W'.cell? ⟨w1.heap.size, 1, none⟩ = some (.bool o1) ∧ W'.cell? ⟨w2.heap.size + 1, 1, none⟩ = some (.bool o1) ∧ W'.cell? ⟨w1.heap.size, 2, none⟩ = some (.bool o2) ∧ W'.cell? ⟨w2.heap.size + 1, 2, none⟩ = some (.bool o2) ∧ W'.cell? ⟨w1.heap.size, 3, none⟩ = some (.bool o3) ∧ W'.cell? ⟨w2.heap.size + 1, 3, none⟩ = some (.bool o3) ∧ W'.cell? ⟨w1.heap.size, 4, none⟩ = some (.bool o4) ∧ W'.cell? ⟨w2.heap.size + 1, 4, none⟩ = some (.bool o4) ∧ W'.cell? ⟨w1.heap.size, 5, none⟩ = some (.bool o5) ∧ W'.cell? ⟨w2.heap.size + 1, 5, none⟩ = some (.bool o5) ∧ W'.cell? ⟨w1.heap.size, 6, none⟩ = some (.bool o6) ∧ W'.cell? ⟨w2.heap.size + 1, 6, none⟩ = some (.bool o6) ∧ W'.cell? ⟨w1.heap.size, 7, none⟩ = some (.slice none 0 0) ∧ W'.cell? ⟨w2.heap.size + 1, 7, none⟩ = some (.slice none 0 0) ∧ W'.cell? ⟨w1.heap.size, 8, none⟩ = some (.slice none 0 0) ∧ W'.cell? ⟨w2.heap.size + 1, 8, none⟩ = some (.slice (some ⟨w2.heap.size, 0, none⟩) 1 1)) ((refine HS.out _ ?_; repeat (first | (with_reducible assumption) | (with_reducible exact Below.refl _ _) | (with_reducible refine Below.drew ?_) | (with_reducible refine below_drewN' ?_ _) | (with_reducible refine below_al ?_) | ((with_reducible refine below_set ?_ ?_); rotate_left; focus (first | (simp; done) | (simp; omega)))))) (first | (go_at_call_of 36 (Value.int .i64 0); refine (isA_c _ _ _ _ _ _ _ 0 _ e0 _ (hL3.out.below (by repeat (first | (with_reducible assumption) | (with_reducible exact Below.refl _ _) | (with_reducible refine Below.drew ?_) | (with_reducible refine below_drewN' ?_ _) | (with_reducible refine below_al ?_) | ((with_reducible refine below_set ?_ ?_); rotate_left; focus (first | (simp; done) | (simp; omega))))))).mono ?_; rintro e wq ⟨rfl, hbq⟩; have hBq := below_step (w := w3) hbq (by repeat (first | (with_reducible assumption) | (with_reducible exact Below.refl _ _) | (with_reducible refine Below.drew ?_) | (with_reducible refine below_drewN' ?_ _) | (with_reducible refine below_al ?_) | ((with_reducible refine below_set ?_ ?_); rotate_left; focus (first | (simp; done) | (simp; omega)))))) | (go_at_call_of 36 (Value.int .i64 3652060); refine (isA_c _ _ _ _ _ _ _ 3652060 _ e1 _ (hL3.out.below (by repeat (first | (with_reducible assumption) | (with_reducible exact Below.refl _ _) | (with_reducible refine Below.drew ?_) | (with_reducible refine below_drewN' ?_ _) | (with_reducible refine below_al ?_) | ((with_reducible refine below_set ?_ ?_); rotate_left; focus (first | (simp; done) | (simp; omega))))))).mono ?_; rintro e wq ⟨rfl, hbq⟩; have hBq := below_step (w := w3) hbq (by repeat (first | (with_reducible assumption) | (with_reducible exact Below.refl _ _) | (with_reducible refine Below.drew ?_) | (with_reducible refine below_drewN' ?_ _) | (with_reducible refine below_al ?_) | ((with_reducible refine below_set ?_ ?_); rotate_left; focus (first | (simp; done) | (simp; omega)))))) | (go_at_call_of 36 (Value.agg #[.bool o0, .bool o1, .bool o2, .bool o3, .bool o4, .bool o5, .bool o6, .slice none 0 0, .slice none 0 0]); refine (isA_c _ _ _ _ _ _ _ n _ eA _ (hL3.out.below (by repeat (first | (with_reducible assumption) | (with_reducible exact Below.refl _ _) | (with_reducible refine Below.drew ?_) | (with_reducible refine below_drewN' ?_ _) | (with_reducible refine below_al ?_) | ((with_reducible refine below_set ?_ ?_); rotate_left; focus (first | (simp; done) | (simp; omega))))))).mono ?_; rintro e wq ⟨rfl, hbq⟩; have hBq := below_step (w := w3) hbq (by repeat (first | (with_reducible assumption) | (with_reducible exact Below.refl _ _) | (with_reducible refine Below.drew ?_) | (with_reducible refine below_drewN' ?_ _) | (with_reducible refine below_al ?_) | ((with_reducible refine below_set ?_ ?_); rotate_left; focus (first | (simp; done) | (simp; omega)))))) | (go_at_call_of 36 (Value.int .i64 m); refine (isB_c _ _ _ _ _ _ _ _ _ m m _ (eM _ _) _ (hL3.out.below (by repeat (first | (with_reducible assumption) | (with_reducible exact Below.refl _ _) | (with_reducible refine Below.drew ?_) | (with_reducible refine below_drewN' ?_ _) | (with_reducible refine below_al ?_) | ((with_reducible refine below_set ?_ ?_); rotate_left; focus (first | (simp; done) | (simp; omega)))))) (hD3.out.below (by repeat (first | (with_reducible assumption) | (with_reducible exact Below.refl _ _) | (with_reducible refine Below.drew ?_) | (with_reducible refine below_drewN' ?_ _) | (with_reducible refine below_al ?_) | ((with_reducible refine below_set ?_ ?_); rotate_left; focus (first | (simp; done) | (simp; omega))))))).mono ?_; rintro e wq ⟨rfl, hbq⟩; have hBq := below_step (w := w3) hbq (by repeat (first | (with_reducible assumption) | (with_reducible exact Below.refl _ _) | (with_reducible refine Below.drew ?_) | (with_reducible refine below_drewN' ?_ _) | (with_reducible refine below_al ?_) | ((with_reducible refine below_set ?_ ?_); rotate_left; focus (first | (simp; done) | (simp; omega)))))) | (go_at_call_of 36 (Value.int .i64 n); refine (isB_c _ _ _ _ _ _ _ _ _ m n _ (eB _ _ hnm) _ (hL3.out.below (by repeat (first | (with_reducible assumption) | (with_reducible exact Below.refl _ _) | (with_reducible refine Below.drew ?_) | (with_reducible refine below_drewN' ?_ _) | (with_reducible refine below_al ?_) | ((with_reducible refine below_set ?_ ?_); rotate_left; focus (first | (simp; done) | (simp; omega)))))) (hD3.out.below (by repeat (first | (with_reducible assumption) | (with_reducible exact Below.refl _ _) | (with_reducible refine Below.drew ?_) | (with_reducible refine below_drewN' ?_ _) | (with_reducible refine below_al ?_) | ((with_reducible refine below_set ?_ ?_); rotate_left; focus (first | (simp; done) | (simp; omega))))))).mono ?_; rintro e wq ⟨rfl, hbq⟩; have hBq := below_step (w := w3) hbq (by repeat (first | (with_reducible assumption) | (with_reducible exact Below.refl _ _) | (with_reducible refine Below.drew ?_) | (with_reducible refine below_drewN' ?_ _) | (with_reducible refine below_al ?_) | ((with_reducible refine below_set ?_ ?_); rotate_left; focus (first | (simp; done) | (simp; omega)))))))
  all_goals ((try go_simp); (repeat (first | ((with_reducible refine wp_region_app ?_); simp only [List.cons_append, List.nil_append]) | go_values | go_skip | go_guarded | go_step | go_upon)); go_ret; exact ⟨rfl, hB3.trans ((by repeat (first | (with_reducible assumption) | (with_reducible exact Below.refl _ _) | (with_reducible refine Below.drew ?_) | (with_reducible refine below_drewN' ?_ _) | (with_reducible refine below_al ?_) | ((with_reducible refine below_set ?_ ?_); rotate_left; focus (first | (simp; done) | (simp; omega)))) : Below w3.heap.size w3 _).mono hB3.size)⟩)
set_option maxRecDepth 100000 in
set_option maxHeartbeats 8000000 in
theorem calWeeks_te (o0 o1 o2 o3 o4 o5 o6 : Bool) (n m : Int) (dn : dayB n = true) (dm : dayB m = true) (hm : (wkA o0 o1 o2 o3 o4 o5 o6).may = true) (k : Nat) (hk7 : k < 7) (hk : Hid (Cal.wd n = k)) (hv : (wkA o0 o1 o2 o3 o4 o5 o6).off k = true) (hnm : (n == m) = true) (w : World) (hL : Laid w) (hN : AllOff w) : Calls Tryd.prog 13 #[.agg #[.bool o0, .bool o1, .bool o2, .bool o3, .bool o4, .bool o5, .bool o6], .int .i64 n, .int .i64 m] w fun e w' => e = .returned (.bool true) ∧ Below w.heap.size w w' := by
  have hB : Below w.heap.size w w := Below.refl _ _
  go_enter Tryd.func13, Tryd.ntmps13
  have eA : Hid ((wkA o0 o1 o2 o3 o4 o5 o6).is n = false) := Lib.hid (by rw [wkA_is, dn, hk.out, hv]; rfl)
  have e0 : Hid ((wkA o0 o1 o2 o3 o4 o5 o6).is 0 = false) := Lib.hid (CalP.is_out (by omega))
  have e1 : Hid ((wkA o0 o1 o2 o3 o4 o5 o6).is 3652060 = false) := Lib.hid (CalP.is_out (by omega))
  have eM : ∀ D cD, Hid ((wkB o0 o1 o2 o3 o4 o5 o6 D cD m).is m = false) := fun D cD => Lib.hid (by rw [wkB_is]; simp)
  have hk0z : (0 : Int) ≤ (k : Int) := by omega
  have hk7z : (k : Int) < 7 := by omega
  have hw := week_at (wkA o0 o1 o2 o3 o4 o5 o6) k hk7; rw [hv] at hw; have HW := Lib.hid hw; clear hw
  (try go_simp); (repeat (first | ((with_reducible refine wp_region_app ?_); simp only [List.cons_append, List.nil_append]) | go_values | go_skip | go_guarded | go_step | go_upon))
  refine (shown13_c _ (hL.below (by repeat (first | assumption | exact Below.refl _ _ | (with_reducible refine Below.drew ?_) | (with_reducible refine below_drewN' ?_ _) | (with_reducible refine below_al ?_) | ((with_reducible refine below_set ?_ ?_); rotate_left; focus (first | (simp; done) | (simp; omega)))))) (hN.below (by repeat (first | assumption | exact Below.refl _ _ | (with_reducible refine Below.drew ?_) | (with_reducible refine below_drewN' ?_ _) | (with_reducible refine below_al ?_) | ((with_reducible refine below_set ?_ ?_); rotate_left; focus (first | (simp; done) | (simp; omega))))))).mono ?_; rintro e w1 ⟨rfl, hb1⟩
  have hz1 := hb1.size; (try simp at hz1); obtain ⟨hc1, hf1⟩ := bcell hb1; have hB1 := below_step (w := w) hb1 (by repeat (first | assumption | exact Below.refl _ _ | (with_reducible refine Below.drew ?_) | (with_reducible refine below_drewN' ?_ _) | (with_reducible refine below_al ?_) | ((with_reducible refine below_set ?_ ?_); rotate_left; focus (first | (simp; done) | (simp; omega)))))
  have le_w_w1 : w.heap.size ≤ w1.heap.size := by omega
  try have lt_w_w1 : w.heap.size < w1.heap.size := by omega
  (try go_simp); (repeat (first | ((with_reducible refine wp_region_app ?_); simp only [List.cons_append, List.nil_append]) | go_values | go_skip | go_guarded | go_step | go_upon))
  refine (rday_c n _).mono ?_; rintro e w' ⟨rfl, rfl⟩
  (try go_simp); (repeat (first | ((with_reducible refine wp_region_app ?_); simp only [List.cons_append, List.nil_append]) | go_values | go_skip | go_guarded | go_step | go_upon))
  refine (rday_c m _).mono ?_; rintro e w' ⟨rfl, rfl⟩
  (try go_simp); (repeat (first | ((with_reducible refine wp_region_app ?_); simp only [List.cons_append, List.nil_append]) | go_values | go_skip | go_guarded | go_step | go_upon))
  refine (rcalMay_c (wkA o0 o1 o2 o3 o4 o5 o6) _ (wkA_in _ _ _ _ _ _ _ _)).mono ?_; rintro e w2 ⟨rfl, hb2⟩
  have hz2 := hb2.size; (try simp at hz2); obtain ⟨hc2, hf2⟩ := bcell hb2; have hB2 := below_step (w := w) hb2 (by repeat (first | assumption | exact Below.refl _ _ | (with_reducible refine Below.drew ?_) | (with_reducible refine below_drewN' ?_ _) | (with_reducible refine below_al ?_) | ((with_reducible refine below_set ?_ ?_); rotate_left; focus (first | (simp; done) | (simp; omega)))))
  have le_w_w2 : w.heap.size ≤ w2.heap.size := by omega
  try have lt_w_w2 : w.heap.size < w2.heap.size := by omega
  have le_w1_w2 : w1.heap.size ≤ w2.heap.size := by omega
  try have lt_w1_w2 : w1.heap.size < w2.heap.size := by omega
  (try go_simp); (repeat (first | ((with_reducible refine wp_region_app ?_); simp only [List.cons_append, List.nil_append]) | go_values | go_skip | go_guarded | go_step | go_upon))
  refine (rwd_c n _).mono ?_; rintro e w' ⟨rfl, rfl⟩
  rw [hk.out]
  (try go_simp); (repeat (first | ((with_reducible refine wp_region_app ?_); simp only [List.cons_append, List.nil_append]) | go_values | go_skip | go_guarded | go_step | go_upon))
  generalize hW : ((w2.alloc _).alloc _) = w3
  have hB3 : Below w.heap.size w w3 := by rw [← hW]; exact below_al (below_al hB2)
  have f0 : w3.cell? ⟨w.heap.size, k, none⟩ = some (.bool true) := by rw [← hW]; exact cell_al (cell_al (below_some hb2 _ _ _ (cell_al (below_some hb1 _ _ _ (cell_nu rfl HW.out)))))
  have fc0 : w3.cell? ⟨w1.heap.size, 0, none⟩ = some (.bool o0) := by rw [← hW]; exact cell_al (cell_al (below_some hb2 _ _ _ (cell_nu rfl rfl)))
  have fd0 : w3.cell? ⟨w2.heap.size + 1, 0, none⟩ = some (.bool o0) := by rw [← hW]; exact cell_nu (by simp) rfl
  have fc1 : w3.cell? ⟨w1.heap.size, 1, none⟩ = some (.bool o1) := by rw [← hW]; exact cell_al (cell_al (below_some hb2 _ _ _ (cell_nu rfl rfl)))
  have fd1 : w3.cell? ⟨w2.heap.size + 1, 1, none⟩ = some (.bool o1) := by rw [← hW]; exact cell_nu (by simp) rfl
  have fc2 : w3.cell? ⟨w1.heap.size, 2, none⟩ = some (.bool o2) := by rw [← hW]; exact cell_al (cell_al (below_some hb2 _ _ _ (cell_nu rfl rfl)))
  have fd2 : w3.cell? ⟨w2.heap.size + 1, 2, none⟩ = some (.bool o2) := by rw [← hW]; exact cell_nu (by simp) rfl
  have fc3 : w3.cell? ⟨w1.heap.size, 3, none⟩ = some (.bool o3) := by rw [← hW]; exact cell_al (cell_al (below_some hb2 _ _ _ (cell_nu rfl rfl)))
  have fd3 : w3.cell? ⟨w2.heap.size + 1, 3, none⟩ = some (.bool o3) := by rw [← hW]; exact cell_nu (by simp) rfl
  have fc4 : w3.cell? ⟨w1.heap.size, 4, none⟩ = some (.bool o4) := by rw [← hW]; exact cell_al (cell_al (below_some hb2 _ _ _ (cell_nu rfl rfl)))
  have fd4 : w3.cell? ⟨w2.heap.size + 1, 4, none⟩ = some (.bool o4) := by rw [← hW]; exact cell_nu (by simp) rfl
  have fc5 : w3.cell? ⟨w1.heap.size, 5, none⟩ = some (.bool o5) := by rw [← hW]; exact cell_al (cell_al (below_some hb2 _ _ _ (cell_nu rfl rfl)))
  have fd5 : w3.cell? ⟨w2.heap.size + 1, 5, none⟩ = some (.bool o5) := by rw [← hW]; exact cell_nu (by simp) rfl
  have fc6 : w3.cell? ⟨w1.heap.size, 6, none⟩ = some (.bool o6) := by rw [← hW]; exact cell_al (cell_al (below_some hb2 _ _ _ (cell_nu rfl rfl)))
  have fd6 : w3.cell? ⟨w2.heap.size + 1, 6, none⟩ = some (.bool o6) := by rw [← hW]; exact cell_nu (by simp) rfl
  have fc7 : w3.cell? ⟨w1.heap.size, 7, none⟩ = some (.slice none 0 0) := by rw [← hW]; exact cell_al (cell_al (below_some hb2 _ _ _ (cell_nu rfl rfl)))
  have fd7 : w3.cell? ⟨w2.heap.size + 1, 7, none⟩ = some (.slice none 0 0) := by rw [← hW]; exact cell_nu (by simp) rfl
  have fc8 : w3.cell? ⟨w1.heap.size, 8, none⟩ = some (.slice none 0 0) := by rw [← hW]; exact cell_al (cell_al (below_some hb2 _ _ _ (cell_nu rfl rfl)))
  have fd8 : w3.cell? ⟨w2.heap.size + 1, 8, none⟩ = some (.slice (some ⟨w2.heap.size, 0, none⟩) 1 1) := by rw [← hW]; exact cell_nu (by simp) rfl
  have hD3 := Lib.hid (show DIn w3 (some ⟨w2.heap.size, 0, none⟩) [m] by rw [← hW]; exact (din_one w2 m).below (below_al (Below.refl _ _)))
  have hL3 := Lib.hid (hL.below hB3)
  clear hW hL hN hb1 hb2 hc1 hf1 hc2 hf2 hB1 hB2 hz1 hz2 le_w_w1 lt_w_w1 le_w_w2 lt_w_w2 le_w1_w2 lt_w1_w2 HW
  have cl0 : w3.cell? ⟨w.heap.size, k, none⟩ = some (.bool true) := f0
  have cl1 : w3.cell? ⟨w1.heap.size, 0, none⟩ = some (.bool o0) := fc0
  have cl2 : w3.cell? ⟨w2.heap.size + 1, 0, none⟩ = some (.bool o0) := fd0
  have cl3 : w3.cell? ⟨w1.heap.size, 1, none⟩ = some (.bool o1) := fc1
  have cl4 : w3.cell? ⟨w2.heap.size + 1, 1, none⟩ = some (.bool o1) := fd1
  have cl5 : w3.cell? ⟨w1.heap.size, 2, none⟩ = some (.bool o2) := fc2
  have cl6 : w3.cell? ⟨w2.heap.size + 1, 2, none⟩ = some (.bool o2) := fd2
  have cl7 : w3.cell? ⟨w1.heap.size, 3, none⟩ = some (.bool o3) := fc3
  have cl8 : w3.cell? ⟨w2.heap.size + 1, 3, none⟩ = some (.bool o3) := fd3
  have cl9 : w3.cell? ⟨w1.heap.size, 4, none⟩ = some (.bool o4) := fc4
  have cl10 : w3.cell? ⟨w2.heap.size + 1, 4, none⟩ = some (.bool o4) := fd4
  have cl11 : w3.cell? ⟨w1.heap.size, 5, none⟩ = some (.bool o5) := fc5
  have cl12 : w3.cell? ⟨w2.heap.size + 1, 5, none⟩ = some (.bool o5) := fd5
  have cl13 : w3.cell? ⟨w1.heap.size, 6, none⟩ = some (.bool o6) := fc6
  have cl14 : w3.cell? ⟨w2.heap.size + 1, 6, none⟩ = some (.bool o6) := fd6
  have cl15 : w3.cell? ⟨w1.heap.size, 7, none⟩ = some (.slice none 0 0) := fc7
  have cl16 : w3.cell? ⟨w2.heap.size + 1, 7, none⟩ = some (.slice none 0 0) := fd7
  have cl17 : w3.cell? ⟨w1.heap.size, 8, none⟩ = some (.slice none 0 0) := fc8
  have cl18 : w3.cell? ⟨w2.heap.size + 1, 8, none⟩ = some (.slice (some ⟨w2.heap.size, 0, none⟩) 1 1) := fd8
  have hRefl : Below w3.heap.size w3 w3 := Below.refl _ _
  have HS : Hid (∀ W, Below w3.heap.size w3 W → (fun W' => Below w3.heap.size w3 W' ∧ W'.cell? ⟨w.heap.size, k, none⟩ = some (.bool true) ∧ W'.cell? ⟨w1.heap.size, 0, none⟩ = some (.bool o0) ∧ W'.cell? ⟨w2.heap.size + 1, 0, none⟩ = some (.bool o0) ∧ W'.cell? ⟨w1.heap.size, 1, none⟩ = some (.bool o1) ∧ W'.cell? ⟨w2.heap.size + 1, 1, none⟩ = some (.bool o1) ∧ W'.cell? ⟨w1.heap.size, 2, none⟩ = some (.bool o2) ∧ W'.cell? ⟨w2.heap.size + 1, 2, none⟩ = some (.bool o2) ∧ W'.cell? ⟨w1.heap.size, 3, none⟩ = some (.bool o3) ∧ W'.cell? ⟨w2.heap.size + 1, 3, none⟩ = some (.bool o3) ∧ W'.cell? ⟨w1.heap.size, 4, none⟩ = some (.bool o4) ∧ W'.cell? ⟨w2.heap.size + 1, 4, none⟩ = some (.bool o4) ∧ W'.cell? ⟨w1.heap.size, 5, none⟩ = some (.bool o5) ∧ W'.cell? ⟨w2.heap.size + 1, 5, none⟩ = some (.bool o5) ∧ W'.cell? ⟨w1.heap.size, 6, none⟩ = some (.bool o6) ∧ W'.cell? ⟨w2.heap.size + 1, 6, none⟩ = some (.bool o6) ∧ W'.cell? ⟨w1.heap.size, 7, none⟩ = some (.slice none 0 0) ∧ W'.cell? ⟨w2.heap.size + 1, 7, none⟩ = some (.slice none 0 0) ∧ W'.cell? ⟨w1.heap.size, 8, none⟩ = some (.slice none 0 0) ∧ W'.cell? ⟨w2.heap.size + 1, 8, none⟩ = some (.slice (some ⟨w2.heap.size, 0, none⟩) 1 1)) W) := Lib.hid (fun W h => ⟨h, below_some h _ _ _ cl0, below_some h _ _ _ cl1, below_some h _ _ _ cl2, below_some h _ _ _ cl3, below_some h _ _ _ cl4, below_some h _ _ _ cl5, below_some h _ _ _ cl6, below_some h _ _ _ cl7, below_some h _ _ _ cl8, below_some h _ _ _ cl9, below_some h _ _ _ cl10, below_some h _ _ _ cl11, below_some h _ _ _ cl12, below_some h _ _ _ cl13, below_some h _ _ _ cl14, below_some h _ _ _ cl15, below_some h _ _ _ cl16, below_some h _ _ _ cl17, below_some h _ _ _ cl18⟩)
  refine wp_region_held_drew (S := (fun W' => Below w3.heap.size w3 W' ∧ W'.cell? ⟨w.heap.size, k, none⟩ = some (.bool true) ∧ W'.cell? ⟨w1.heap.size, 0, none⟩ = some (.bool o0) ∧ W'.cell? ⟨w2.heap.size + 1, 0, none⟩ = some (.bool o0) ∧ W'.cell? ⟨w1.heap.size, 1, none⟩ = some (.bool o1) ∧ W'.cell? ⟨w2.heap.size + 1, 1, none⟩ = some (.bool o1) ∧ W'.cell? ⟨w1.heap.size, 2, none⟩ = some (.bool o2) ∧ W'.cell? ⟨w2.heap.size + 1, 2, none⟩ = some (.bool o2) ∧ W'.cell? ⟨w1.heap.size, 3, none⟩ = some (.bool o3) ∧ W'.cell? ⟨w2.heap.size + 1, 3, none⟩ = some (.bool o3) ∧ W'.cell? ⟨w1.heap.size, 4, none⟩ = some (.bool o4) ∧ W'.cell? ⟨w2.heap.size + 1, 4, none⟩ = some (.bool o4) ∧ W'.cell? ⟨w1.heap.size, 5, none⟩ = some (.bool o5) ∧ W'.cell? ⟨w2.heap.size + 1, 5, none⟩ = some (.bool o5) ∧ W'.cell? ⟨w1.heap.size, 6, none⟩ = some (.bool o6) ∧ W'.cell? ⟨w2.heap.size + 1, 6, none⟩ = some (.bool o6) ∧ W'.cell? ⟨w1.heap.size, 7, none⟩ = some (.slice none 0 0) ∧ W'.cell? ⟨w2.heap.size + 1, 7, none⟩ = some (.slice none 0 0) ∧ W'.cell? ⟨w1.heap.size, 8, none⟩ = some (.slice none 0 0) ∧ W'.cell? ⟨w2.heap.size + 1, 8, none⟩ = some (.slice (some ⟨w2.heap.size, 0, none⟩) 1 1))) (by kernel_rfl) ?_ (fun hHeld => ?_)
  · (refine HS.out _ ?_; repeat (first | (with_reducible assumption) | (with_reducible exact Below.refl _ _) | (with_reducible refine Below.drew ?_) | (with_reducible refine below_drewN' ?_ _) | (with_reducible refine below_al ?_) | ((with_reducible refine below_set ?_ ?_); rotate_left; focus (first | (simp; done) | (simp; omega)))))
  refine wpAnyH_take (i := 0) (oi := ?_) (v := ?_) ?_ (by kernel_rfl) (by kernel_rfl) (by kernel_rfl) ?_ (Or.inl ⟨?_, ?_⟩) (by assumption) ?_; rotate_left 2
  · ((try simp only [List.getElem?_toArray, List.getElem?_cons_succ, List.getElem?_cons_zero]); rfl)
  · exact (fun _ _ _ h => h)
  · rfl
  · (intro w hSw; (try dsimp only at hSw); go_simp; (try with_reducible rfl))
  (try simp only [Act.put, List.setIfInBounds_toArray, List.set_cons_zero, List.set_cons_succ])
  refine wpAnyH_take (i := 1) (oi := ?_) (v := ?_) ?_ (by kernel_rfl) (by kernel_rfl) (by kernel_rfl) ?_ (Or.inl ⟨?_, ?_⟩) (by assumption) ?_; rotate_left 2
  · ((try simp only [List.getElem?_toArray, List.getElem?_cons_succ, List.getElem?_cons_zero]); rfl)
  · exact (fun _ _ _ h => h)
  · rfl
  · (intro w hSw; (try dsimp only at hSw); go_simp; (try with_reducible rfl))
  (try simp only [Act.put, List.setIfInBounds_toArray, List.set_cons_zero, List.set_cons_succ])
  refine wpAnyH_take (i := 2) (oi := ?_) (v := ?_) ?_ (by kernel_rfl) (by kernel_rfl) (by kernel_rfl) ?_ (Or.inl ⟨?_, ?_⟩) (by assumption) ?_; rotate_left 2
  · ((try simp only [List.getElem?_toArray, List.getElem?_cons_succ, List.getElem?_cons_zero]); rfl)
  · exact (fun _ _ _ h => h)
  · rfl
  · (intro w hSw; (try dsimp only at hSw); go_simp; (try with_reducible rfl))
  (try simp only [Act.put, List.setIfInBounds_toArray, List.set_cons_zero, List.set_cons_succ])
  refine wpAnyH_take (i := 3) (oi := ?_) (v := ?_) ?_ (by kernel_rfl) (by kernel_rfl) (by kernel_rfl) ?_ (Or.inl ⟨?_, ?_⟩) (by assumption) ?_; rotate_left 2
  · ((try simp only [List.getElem?_toArray, List.getElem?_cons_succ, List.getElem?_cons_zero]); rfl)
  · exact (fun _ _ _ h => h)
  · rfl
  · (intro w hSw; (try dsimp only at hSw); go_simp; (try with_reducible rfl))
  (try simp only [Act.put, List.setIfInBounds_toArray, List.set_cons_zero, List.set_cons_succ])
  refine wpAnyH_take (i := 5) (oi := ?_) (v := ?_) ?_ (by kernel_rfl) (by kernel_rfl) (by kernel_rfl) ?_ (Or.inl ⟨?_, ?_⟩) (by assumption) ?_; rotate_left 2
  · ((try simp only [List.getElem?_toArray, List.getElem?_cons_succ, List.getElem?_cons_zero]); rfl)
  · exact (fun _ _ _ h => h)
  · rfl
  · (intro w hSw; (try dsimp only at hSw); go_simp; (try with_reducible rfl))
  (try simp only [Act.put, List.setIfInBounds_toArray, List.set_cons_zero, List.set_cons_succ])
  refine wpAnyH_take (i := 6) (oi := ?_) (v := ?_) ?_ (by kernel_rfl) (by kernel_rfl) (by kernel_rfl) ?_ (Or.inl ⟨?_, ?_⟩) (by assumption) ?_; rotate_left 2
  · ((try simp only [List.getElem?_toArray, List.getElem?_cons_succ, List.getElem?_cons_zero]); rfl)
  · exact (fun _ _ _ h => h)
  · rfl
  · (intro w hSw; (try dsimp only at hSw); go_simp; (try with_reducible rfl))
  (try simp only [Act.put, List.setIfInBounds_toArray, List.set_cons_zero, List.set_cons_succ])
  refine wpAnyH_take (i := 7) (oi := ?_) (v := ?_) ?_ (by kernel_rfl) (by kernel_rfl) (by kernel_rfl) ?_ (Or.inl ⟨?_, ?_⟩) (by assumption) ?_; rotate_left 2
  · ((try simp only [List.getElem?_toArray, List.getElem?_cons_succ, List.getElem?_cons_zero]); rfl)
  · exact (fun _ _ _ h => h)
  · rfl
  · (intro w hSw; (try dsimp only at hSw); go_simp; (try with_reducible rfl))
  (try simp only [Act.put, List.setIfInBounds_toArray, List.set_cons_zero, List.set_cons_succ])
  refine wpAnyH_take (i := 8) (oi := ?_) (v := ?_) ?_ (by kernel_rfl) (by kernel_rfl) (by kernel_rfl) ?_ (Or.inl ⟨?_, ?_⟩) (by assumption) ?_; rotate_left 2
  · ((try simp only [List.getElem?_toArray, List.getElem?_cons_succ, List.getElem?_cons_zero]); rfl)
  · exact (fun _ _ _ h => h)
  · rfl
  · (intro w hSw; (try dsimp only at hSw); go_simp; (try with_reducible rfl))
  (try simp only [Act.put, List.setIfInBounds_toArray, List.set_cons_zero, List.set_cons_succ])
  refine wpAnyH_ready (rs := [4]) (by kernel_rfl) (by simp) ?_
  refine AllReadyH.cons (o := ?_) ?_ (fun K hK => ?_) AllReadyH.nil; rotate_left 1
  · ((try simp only [List.getElem?_toArray, List.getElem?_cons_succ, List.getElem?_cons_zero]); rfl)
  go_simp
  refine (isA_c _ _ _ _ _ _ _ n _ eA _ (hL3.out.below (by repeat (first | (with_reducible assumption) | (with_reducible exact Below.refl _ _) | (with_reducible refine Below.drew ?_) | (with_reducible refine below_drewN' ?_ _) | (with_reducible refine below_al ?_) | ((with_reducible refine below_set ?_ ?_); rotate_left; focus (first | (simp; done) | (simp; omega))))))).mono ?_; rintro e wq ⟨rfl, hbq⟩; have hBq := below_step (w := w3) hbq (by repeat (first | (with_reducible assumption) | (with_reducible exact Below.refl _ _) | (with_reducible refine Below.drew ?_) | (with_reducible refine below_drewN' ?_ _) | (with_reducible refine below_al ?_) | ((with_reducible refine below_set ?_ ?_); rotate_left; focus (first | (simp; done) | (simp; omega))))); clear hbq
  (try go_wp2_with fail)
  refine hK.out _ _ ?_ (fun hNew => ?_)
  · (refine HS.out _ ?_; repeat (first | (with_reducible assumption) | (with_reducible exact Below.refl _ _) | (with_reducible refine Below.drew ?_) | (with_reducible refine below_drewN' ?_ _) | (with_reducible refine below_al ?_) | ((with_reducible refine below_set ?_ ?_); rotate_left; focus (first | (simp; done) | (simp; omega)))))
  clear hK K hHeld; have hHeld := hNew; clear hNew
  (try simp only [Act.put, List.setIfInBounds_toArray, List.set_cons_zero, List.set_cons_succ])
  refine wpAnyH_take (i := 9) (oi := ?_) (v := ?_) ?_ (by kernel_rfl) (by kernel_rfl) (by kernel_rfl) ?_ (Or.inl ⟨?_, ?_⟩) (by assumption) ?_; rotate_left 2
  · ((try simp only [List.getElem?_toArray, List.getElem?_cons_succ, List.getElem?_cons_zero]); rfl)
  · exact (fun _ _ _ h => h)
  · rfl
  · (intro w hSw; (try dsimp only at hSw); go_simp; (try with_reducible rfl))
  (try simp only [Act.put, List.setIfInBounds_toArray, List.set_cons_zero, List.set_cons_succ])
  refine wpAnyH_take (i := 10) (oi := ?_) (v := ?_) ?_ (by kernel_rfl) (by kernel_rfl) (by kernel_rfl) ?_ (Or.inl ⟨?_, ?_⟩) (by assumption) ?_; rotate_left 2
  · ((try simp only [List.getElem?_toArray, List.getElem?_cons_succ, List.getElem?_cons_zero]); rfl)
  · exact (fun _ _ _ h => h)
  · rfl
  · (intro w hSw; (try dsimp only at hSw); go_simp; (try with_reducible rfl))
  (try simp only [Act.put, List.setIfInBounds_toArray, List.set_cons_zero, List.set_cons_succ])
  refine wpAnyH_take (i := 11) (oi := ?_) (v := ?_) ?_ (by kernel_rfl) (by kernel_rfl) (by kernel_rfl) ?_ (Or.inl ⟨?_, ?_⟩) (by assumption) ?_; rotate_left 2
  · ((try simp only [List.getElem?_toArray, List.getElem?_cons_succ, List.getElem?_cons_zero]); rfl)
  · exact (fun _ _ _ h => h)
  · rfl
  · (intro w hSw; (try dsimp only at hSw); go_simp; (try with_reducible rfl))
  (try simp only [Act.put, List.setIfInBounds_toArray, List.set_cons_zero, List.set_cons_succ])
  refine wpAnyH_take (i := 12) (oi := ?_) (v := ?_) ?_ (by kernel_rfl) (by kernel_rfl) (by kernel_rfl) ?_ (Or.inl ⟨?_, ?_⟩) (by assumption) ?_; rotate_left 2
  · ((try simp only [List.getElem?_toArray, List.getElem?_cons_succ, List.getElem?_cons_zero]); rfl)
  · exact (fun _ _ _ h => h)
  · rfl
  · (intro w hSw; (try dsimp only at hSw); go_simp; (try with_reducible rfl))
  (try simp only [Act.put, List.setIfInBounds_toArray, List.set_cons_zero, List.set_cons_succ])
  refine wpAnyH_take (i := 13) (oi := ?_) (v := ?_) ?_ (by kernel_rfl) (by kernel_rfl) (by kernel_rfl) ?_ (Or.inl ⟨?_, ?_⟩) (by assumption) ?_; rotate_left 2
  · ((try simp only [List.getElem?_toArray, List.getElem?_cons_succ, List.getElem?_cons_zero]); rfl)
  · exact (fun _ _ _ h => h)
  · rfl
  · (intro w hSw; (try dsimp only at hSw); go_simp; (try with_reducible rfl))
  (try simp only [Act.put, List.setIfInBounds_toArray, List.set_cons_zero, List.set_cons_succ])
  refine wpAnyH_ready (rs := [14]) (by kernel_rfl) (by simp) ?_
  refine AllReadyH.cons (o := ?_) ?_ (fun K hK => ?_) AllReadyH.nil; rotate_left 1
  · ((try simp only [List.getElem?_toArray, List.getElem?_cons_succ, List.getElem?_cons_zero]); rfl)
  go_simp
  refine (isB_c _ _ _ _ _ _ _ _ _ m m _ (eM _ _) _ (hL3.out.below (by repeat (first | (with_reducible assumption) | (with_reducible exact Below.refl _ _) | (with_reducible refine Below.drew ?_) | (with_reducible refine below_drewN' ?_ _) | (with_reducible refine below_al ?_) | ((with_reducible refine below_set ?_ ?_); rotate_left; focus (first | (simp; done) | (simp; omega)))))) (hD3.out.below (by repeat (first | (with_reducible assumption) | (with_reducible exact Below.refl _ _) | (with_reducible refine Below.drew ?_) | (with_reducible refine below_drewN' ?_ _) | (with_reducible refine below_al ?_) | ((with_reducible refine below_set ?_ ?_); rotate_left; focus (first | (simp; done) | (simp; omega))))))).mono ?_; rintro e wq ⟨rfl, hbq⟩; have hBq := below_step (w := w3) hbq (by repeat (first | (with_reducible assumption) | (with_reducible exact Below.refl _ _) | (with_reducible refine Below.drew ?_) | (with_reducible refine below_drewN' ?_ _) | (with_reducible refine below_al ?_) | ((with_reducible refine below_set ?_ ?_); rotate_left; focus (first | (simp; done) | (simp; omega))))); clear hbq
  (try go_wp2_with fail)
  refine hK.out _ _ ?_ (fun hNew => ?_)
  · (refine HS.out _ ?_; repeat (first | (with_reducible assumption) | (with_reducible exact Below.refl _ _) | (with_reducible refine Below.drew ?_) | (with_reducible refine below_drewN' ?_ _) | (with_reducible refine below_al ?_) | ((with_reducible refine below_set ?_ ?_); rotate_left; focus (first | (simp; done) | (simp; omega)))))
  clear hK K hHeld; have hHeld := hNew; clear hNew
  (try simp only [Act.put, List.setIfInBounds_toArray, List.set_cons_zero, List.set_cons_succ])
  refine wpAnyH_take (i := 15) (oi := ?_) (v := ?_) ?_ (by kernel_rfl) (by kernel_rfl) (by kernel_rfl) ?_ (Or.inl ⟨?_, ?_⟩) (by assumption) ?_; rotate_left 2
  · ((try simp only [List.getElem?_toArray, List.getElem?_cons_succ, List.getElem?_cons_zero]); rfl)
  · exact (fun _ _ _ h => h)
  · rfl
  · (intro w hSw; (try dsimp only at hSw); go_simp; (try with_reducible rfl))
  (try simp only [Act.put, List.setIfInBounds_toArray, List.set_cons_zero, List.set_cons_succ])
  refine wpAnyH_take (i := 16) (oi := ?_) (v := ?_) ?_ (by kernel_rfl) (by kernel_rfl) (by kernel_rfl) ?_ (Or.inl ⟨?_, ?_⟩) (by assumption) ?_; rotate_left 2
  · ((try simp only [List.getElem?_toArray, List.getElem?_cons_succ, List.getElem?_cons_zero]); rfl)
  · exact (fun _ _ _ h => h)
  · rfl
  · (intro w hSw; (try dsimp only at hSw); go_simp; (try with_reducible rfl))
  (try simp only [Act.put, List.setIfInBounds_toArray, List.set_cons_zero, List.set_cons_succ])
  refine wpAnyH_take (i := 17) (oi := ?_) (v := ?_) ?_ (by kernel_rfl) (by kernel_rfl) (by kernel_rfl) ?_ (Or.inl ⟨?_, ?_⟩) (by assumption) ?_; rotate_left 2
  · ((try simp only [List.getElem?_toArray, List.getElem?_cons_succ, List.getElem?_cons_zero]); rfl)
  · exact (fun _ _ _ h => h)
  · rfl
  · (intro w hSw; (try dsimp only at hSw); go_simp; (try with_reducible rfl))
  (try simp only [Act.put, List.setIfInBounds_toArray, List.set_cons_zero, List.set_cons_succ])
  refine wpAnyH_take (i := 18) (oi := ?_) (v := ?_) ?_ (by kernel_rfl) (by kernel_rfl) (by kernel_rfl) ?_ (Or.inl ⟨?_, ?_⟩) (by assumption) ?_; rotate_left 2
  · ((try simp only [List.getElem?_toArray, List.getElem?_cons_succ, List.getElem?_cons_zero]); rfl)
  · exact (fun _ _ _ h => h)
  · rfl
  · (intro w hSw; (try dsimp only at hSw); go_simp; (try with_reducible rfl))
  (try simp only [Act.put, List.setIfInBounds_toArray, List.set_cons_zero, List.set_cons_succ])
  refine wpAnyH_take (i := 19) (oi := ?_) (v := ?_) ?_ (by kernel_rfl) (by kernel_rfl) (by kernel_rfl) ?_ (Or.inl ⟨?_, ?_⟩) (by assumption) ?_; rotate_left 2
  · ((try simp only [List.getElem?_toArray, List.getElem?_cons_succ, List.getElem?_cons_zero]); rfl)
  · exact (fun _ _ _ h => h)
  · rfl
  · (intro w hSw; (try dsimp only at hSw); go_simp; (try with_reducible rfl))
  (try simp only [Act.put, List.setIfInBounds_toArray, List.set_cons_zero, List.set_cons_succ])
  refine wpAnyH_take (i := 20) (oi := ?_) (v := ?_) ?_ (by kernel_rfl) (by kernel_rfl) (by kernel_rfl) ?_ (Or.inl ⟨?_, ?_⟩) (by assumption) ?_; rotate_left 2
  · ((try simp only [List.getElem?_toArray, List.getElem?_cons_succ, List.getElem?_cons_zero]); rfl)
  · exact (fun _ _ _ h => h)
  · rfl
  · (intro w hSw; (try dsimp only at hSw); go_simp; (try with_reducible rfl))
  (try simp only [Act.put, List.setIfInBounds_toArray, List.set_cons_zero, List.set_cons_succ])
  refine wpAnyH_take (i := 21) (oi := ?_) (v := ?_) ?_ (by kernel_rfl) (by kernel_rfl) (by kernel_rfl) ?_ (Or.inl ⟨?_, ?_⟩) (by assumption) ?_; rotate_left 2
  · ((try simp only [List.getElem?_toArray, List.getElem?_cons_succ, List.getElem?_cons_zero]); rfl)
  · exact (fun _ _ _ h => h)
  · rfl
  · (intro w hSw; (try dsimp only at hSw); go_simp; (try with_reducible rfl))
  (try simp only [Act.put, List.setIfInBounds_toArray, List.set_cons_zero, List.set_cons_succ])
  refine wpAnyH_take (i := 22) (oi := ?_) (v := undef) ?_ (by kernel_rfl) (by kernel_rfl) (by kernel_rfl) ?_ (Or.inr ⟨?_, rfl⟩) (by assumption) ?_; rotate_left 1
  · ((try simp only [List.getElem?_toArray, List.getElem?_cons_succ, List.getElem?_cons_zero]); rfl)
  · exact (fun _ _ _ h => h)
  · rfl
  (try simp only [Act.put, List.setIfInBounds_toArray, List.set_cons_zero, List.set_cons_succ])
  refine wpAnyH_take (i := 23) (oi := ?_) (v := undef) ?_ (by kernel_rfl) (by kernel_rfl) (by kernel_rfl) ?_ (Or.inr ⟨?_, rfl⟩) (by assumption) ?_; rotate_left 1
  · ((try simp only [List.getElem?_toArray, List.getElem?_cons_succ, List.getElem?_cons_zero]); rfl)
  · exact (fun _ _ _ h => h)
  · rfl
  (try simp only [Act.put, List.setIfInBounds_toArray, List.set_cons_zero, List.set_cons_succ])
  refine wpAnyH_take (i := 25) (oi := ?_) (v := undef) ?_ (by kernel_rfl) (by kernel_rfl) (by kernel_rfl) ?_ (Or.inr ⟨?_, rfl⟩) (by assumption) ?_; rotate_left 1
  · ((try simp only [List.getElem?_toArray, List.getElem?_cons_succ, List.getElem?_cons_zero]); rfl)
  · exact (fun _ _ _ h => h)
  · rfl
  (try simp only [Act.put, List.setIfInBounds_toArray, List.set_cons_zero, List.set_cons_succ])
  refine wpAnyH_take (i := 26) (oi := ?_) (v := undef) ?_ (by kernel_rfl) (by kernel_rfl) (by kernel_rfl) ?_ (Or.inr ⟨?_, rfl⟩) (by assumption) ?_; rotate_left 1
  · ((try simp only [List.getElem?_toArray, List.getElem?_cons_succ, List.getElem?_cons_zero]); rfl)
  · exact (fun _ _ _ h => h)
  · rfl
  (try simp only [Act.put, List.setIfInBounds_toArray, List.set_cons_zero, List.set_cons_succ])
  refine wpAnyH_take (i := 27) (oi := ?_) (v := undef) ?_ (by kernel_rfl) (by kernel_rfl) (by kernel_rfl) ?_ (Or.inr ⟨?_, rfl⟩) (by assumption) ?_; rotate_left 1
  · ((try simp only [List.getElem?_toArray, List.getElem?_cons_succ, List.getElem?_cons_zero]); rfl)
  · exact (fun _ _ _ h => h)
  · rfl
  (try simp only [Act.put, List.setIfInBounds_toArray, List.set_cons_zero, List.set_cons_succ])
  refine wpAnyH_take (i := 28) (oi := ?_) (v := undef) ?_ (by kernel_rfl) (by kernel_rfl) (by kernel_rfl) ?_ (Or.inr ⟨?_, rfl⟩) (by assumption) ?_; rotate_left 1
  · ((try simp only [List.getElem?_toArray, List.getElem?_cons_succ, List.getElem?_cons_zero]); rfl)
  · exact (fun _ _ _ h => h)
  · rfl
  (try simp only [Act.put, List.setIfInBounds_toArray, List.set_cons_zero, List.set_cons_succ])
  refine wpAnyH_take (i := 24) (oi := ?_) (v := undef) ?_ (by kernel_rfl) (by kernel_rfl) (by kernel_rfl) ?_ (Or.inr ⟨?_, rfl⟩) (by assumption) ?_; rotate_left 1
  · ((try simp only [List.getElem?_toArray, List.getElem?_cons_succ, List.getElem?_cons_zero]); rfl)
  · exact (fun _ _ _ h => h)
  · rfl
  (try simp only [Act.put, List.setIfInBounds_toArray, List.set_cons_zero, List.set_cons_succ])
  refine wpAnyH_take (i := 29) (oi := ?_) (v := undef) ?_ (by kernel_rfl) (by kernel_rfl) (by kernel_rfl) ?_ (Or.inr ⟨?_, rfl⟩) (by assumption) ?_; rotate_left 1
  · ((try simp only [List.getElem?_toArray, List.getElem?_cons_succ, List.getElem?_cons_zero]); rfl)
  · exact (fun _ _ _ h => h)
  · rfl
  (try simp only [Act.put, List.setIfInBounds_toArray, List.set_cons_zero, List.set_cons_succ])
  refine wpAnyH_take (i := 30) (oi := ?_) (v := ?_) ?_ (by kernel_rfl) (by kernel_rfl) (by kernel_rfl) ?_ (Or.inl ⟨?_, ?_⟩) (by assumption) ?_; rotate_left 2
  · ((try simp only [List.getElem?_toArray, List.getElem?_cons_succ, List.getElem?_cons_zero]); rfl)
  · exact (fun _ _ _ h => h)
  · rfl
  · (intro w hSw; (try dsimp only at hSw); go_simp; (try with_reducible rfl))
  (try simp only [Act.put, List.setIfInBounds_toArray, List.set_cons_zero, List.set_cons_succ])
  refine wpAnyH_take (i := 31) (oi := ?_) (v := ?_) ?_ (by kernel_rfl) (by kernel_rfl) (by kernel_rfl) ?_ (Or.inl ⟨?_, ?_⟩) (by assumption) ?_; rotate_left 2
  · ((try simp only [List.getElem?_toArray, List.getElem?_cons_succ, List.getElem?_cons_zero]); rfl)
  · exact (fun _ _ _ h => h)
  · rfl
  · (intro w hSw; (try dsimp only at hSw); go_simp; (try with_reducible rfl))
  (try simp only [Act.put, List.setIfInBounds_toArray, List.set_cons_zero, List.set_cons_succ])
  refine wpAnyH_take (i := 32) (oi := ?_) (v := ?_) ?_ (by kernel_rfl) (by kernel_rfl) (by kernel_rfl) ?_ (Or.inl ⟨?_, ?_⟩) (by assumption) ?_; rotate_left 2
  · ((try simp only [List.getElem?_toArray, List.getElem?_cons_succ, List.getElem?_cons_zero]); rfl)
  · exact (fun _ _ _ h => h)
  · rfl
  · (intro w hSw; (try dsimp only at hSw); go_simp; (try with_reducible rfl))
  (try simp only [Act.put, List.setIfInBounds_toArray, List.set_cons_zero, List.set_cons_succ])
  refine wpAnyH_take (i := 33) (oi := ?_) (v := ?_) ?_ (by kernel_rfl) (by kernel_rfl) (by kernel_rfl) ?_ (Or.inl ⟨?_, ?_⟩) (by assumption) ?_; rotate_left 2
  · ((try simp only [List.getElem?_toArray, List.getElem?_cons_succ, List.getElem?_cons_zero]); rfl)
  · exact (fun _ _ _ h => h)
  · rfl
  · (intro w hSw; (try dsimp only at hSw); go_simp; (try with_reducible rfl))
  (try simp only [Act.put, List.setIfInBounds_toArray, List.set_cons_zero, List.set_cons_succ])
  refine wpAnyH_ready (rs := [34]) (by kernel_rfl) (by simp) ?_
  refine AllReadyH.cons (o := ?_) ?_ (fun K hK => ?_) AllReadyH.nil; rotate_left 1
  · ((try simp only [List.getElem?_toArray, List.getElem?_cons_succ, List.getElem?_cons_zero]); rfl)
  go_simp
  refine (isA_c _ _ _ _ _ _ _ 0 _ e0 _ (hL3.out.below (by repeat (first | (with_reducible assumption) | (with_reducible exact Below.refl _ _) | (with_reducible refine Below.drew ?_) | (with_reducible refine below_drewN' ?_ _) | (with_reducible refine below_al ?_) | ((with_reducible refine below_set ?_ ?_); rotate_left; focus (first | (simp; done) | (simp; omega))))))).mono ?_; rintro e wq ⟨rfl, hbq⟩; have hBq := below_step (w := w3) hbq (by repeat (first | (with_reducible assumption) | (with_reducible exact Below.refl _ _) | (with_reducible refine Below.drew ?_) | (with_reducible refine below_drewN' ?_ _) | (with_reducible refine below_al ?_) | ((with_reducible refine below_set ?_ ?_); rotate_left; focus (first | (simp; done) | (simp; omega))))); clear hbq
  (try go_wp2_with fail)
  refine hK.out _ _ ?_ (fun hNew => ?_)
  · (refine HS.out _ ?_; repeat (first | (with_reducible assumption) | (with_reducible exact Below.refl _ _) | (with_reducible refine Below.drew ?_) | (with_reducible refine below_drewN' ?_ _) | (with_reducible refine below_al ?_) | ((with_reducible refine below_set ?_ ?_); rotate_left; focus (first | (simp; done) | (simp; omega)))))
  clear hK K hHeld; have hHeld := hNew; clear hNew
  (try simp only [Act.put, List.setIfInBounds_toArray, List.set_cons_zero, List.set_cons_succ])
  refine wpAnyH_take (i := 35) (oi := ?_) (v := ?_) ?_ (by kernel_rfl) (by kernel_rfl) (by kernel_rfl) ?_ (Or.inl ⟨?_, ?_⟩) (by assumption) ?_; rotate_left 2
  · ((try simp only [List.getElem?_toArray, List.getElem?_cons_succ, List.getElem?_cons_zero]); rfl)
  · exact (fun _ _ _ h => h)
  · rfl
  · (intro w hSw; (try dsimp only at hSw); go_simp; (try with_reducible rfl))
  (try simp only [Act.put, List.setIfInBounds_toArray, List.set_cons_zero, List.set_cons_succ])
  refine wpAnyH_take (i := 36) (oi := ?_) (v := ?_) ?_ (by kernel_rfl) (by kernel_rfl) (by kernel_rfl) ?_ (Or.inl ⟨?_, ?_⟩) (by assumption) ?_; rotate_left 2
  · ((try simp only [List.getElem?_toArray, List.getElem?_cons_succ, List.getElem?_cons_zero]); rfl)
  · exact (fun _ _ _ h => h)
  · rfl
  · (intro w hSw; (try dsimp only at hSw); go_simp; (try with_reducible rfl))
  (try simp only [Act.put, List.setIfInBounds_toArray, List.set_cons_zero, List.set_cons_succ])
  refine wpAnyH_take (i := 37) (oi := ?_) (v := ?_) ?_ (by kernel_rfl) (by kernel_rfl) (by kernel_rfl) ?_ (Or.inl ⟨?_, ?_⟩) (by assumption) ?_; rotate_left 2
  · ((try simp only [List.getElem?_toArray, List.getElem?_cons_succ, List.getElem?_cons_zero]); rfl)
  · exact (fun _ _ _ h => h)
  · rfl
  · (intro w hSw; (try dsimp only at hSw); go_simp; (try with_reducible rfl))
  (try simp only [Act.put, List.setIfInBounds_toArray, List.set_cons_zero, List.set_cons_succ])
  refine wpAnyH_take (i := 38) (oi := ?_) (v := ?_) ?_ (by kernel_rfl) (by kernel_rfl) (by kernel_rfl) ?_ (Or.inl ⟨?_, ?_⟩) (by assumption) ?_; rotate_left 2
  · ((try simp only [List.getElem?_toArray, List.getElem?_cons_succ, List.getElem?_cons_zero]); rfl)
  · exact (fun _ _ _ h => h)
  · rfl
  · (intro w hSw; (try dsimp only at hSw); go_simp; (try with_reducible rfl))
  (try simp only [Act.put, List.setIfInBounds_toArray, List.set_cons_zero, List.set_cons_succ])
  refine wpAnyH_ready (rs := [39]) (by kernel_rfl) (by simp) ?_
  refine AllReadyH.cons (o := ?_) ?_ (fun K hK => ?_) AllReadyH.nil; rotate_left 1
  · ((try simp only [List.getElem?_toArray, List.getElem?_cons_succ, List.getElem?_cons_zero]); rfl)
  go_simp
  refine (isA_c _ _ _ _ _ _ _ 3652060 _ e1 _ (hL3.out.below (by repeat (first | (with_reducible assumption) | (with_reducible exact Below.refl _ _) | (with_reducible refine Below.drew ?_) | (with_reducible refine below_drewN' ?_ _) | (with_reducible refine below_al ?_) | ((with_reducible refine below_set ?_ ?_); rotate_left; focus (first | (simp; done) | (simp; omega))))))).mono ?_; rintro e wq ⟨rfl, hbq⟩; have hBq := below_step (w := w3) hbq (by repeat (first | (with_reducible assumption) | (with_reducible exact Below.refl _ _) | (with_reducible refine Below.drew ?_) | (with_reducible refine below_drewN' ?_ _) | (with_reducible refine below_al ?_) | ((with_reducible refine below_set ?_ ?_); rotate_left; focus (first | (simp; done) | (simp; omega))))); clear hbq
  (try go_wp2_with fail)
  refine hK.out _ _ ?_ (fun hNew => ?_)
  · (refine HS.out _ ?_; repeat (first | (with_reducible assumption) | (with_reducible exact Below.refl _ _) | (with_reducible refine Below.drew ?_) | (with_reducible refine below_drewN' ?_ _) | (with_reducible refine below_al ?_) | ((with_reducible refine below_set ?_ ?_); rotate_left; focus (first | (simp; done) | (simp; omega)))))
  clear hK K hHeld; have hHeld := hNew; clear hNew
  (try simp only [Act.put, List.setIfInBounds_toArray, List.set_cons_zero, List.set_cons_succ])
  refine wpAnyH_take (i := 40) (oi := ?_) (v := ?_) ?_ (by kernel_rfl) (by kernel_rfl) (by kernel_rfl) ?_ (Or.inl ⟨?_, ?_⟩) (by assumption) ?_; rotate_left 2
  · ((try simp only [List.getElem?_toArray, List.getElem?_cons_succ, List.getElem?_cons_zero]); rfl)
  · exact (fun _ _ _ h => h)
  · rfl
  · (intro w hSw; (try dsimp only at hSw); go_simp; (try with_reducible rfl))
  (try simp only [Act.put, List.setIfInBounds_toArray, List.set_cons_zero, List.set_cons_succ])
  refine wpAnyH_take (i := 41) (oi := ?_) (v := ?_) ?_ (by kernel_rfl) (by kernel_rfl) (by kernel_rfl) ?_ (Or.inl ⟨?_, ?_⟩) (by assumption) ?_; rotate_left 2
  · ((try simp only [List.getElem?_toArray, List.getElem?_cons_succ, List.getElem?_cons_zero]); rfl)
  · exact (fun _ _ _ h => h)
  · rfl
  · (intro w hSw; (try dsimp only at hSw); go_simp; (try with_reducible rfl))
  (try simp only [Act.put, List.setIfInBounds_toArray, List.set_cons_zero, List.set_cons_succ])
  refine wpAnyH_take (i := 42) (oi := ?_) (v := ?_) ?_ (by kernel_rfl) (by kernel_rfl) (by kernel_rfl) ?_ (Or.inl ⟨?_, ?_⟩) (by assumption) ?_; rotate_left 2
  · ((try simp only [List.getElem?_toArray, List.getElem?_cons_succ, List.getElem?_cons_zero]); rfl)
  · exact (fun _ _ _ h => h)
  · rfl
  · (intro w hSw; (try dsimp only at hSw); go_simp; (try with_reducible rfl))
  (try simp only [Act.put, List.setIfInBounds_toArray, List.set_cons_zero, List.set_cons_succ])
  refine wpAnyH_done (by kernel_rfl) ?_ _
  all_goals ((try go_simp); (repeat (first | ((with_reducible refine wp_region_app ?_); simp only [List.cons_append, List.nil_append]) | go_values | go_skip | go_guarded | go_step | go_upon)); go_ret; exact ⟨rfl, hB3.trans ((by repeat (first | (with_reducible assumption) | (with_reducible exact Below.refl _ _) | (with_reducible refine Below.drew ?_) | (with_reducible refine below_drewN' ?_ _) | (with_reducible refine below_al ?_) | ((with_reducible refine below_set ?_ ?_); rotate_left; focus (first | (simp; done) | (simp; omega)))) : Below w3.heap.size w3 _).mono hB3.size)⟩)
set_option maxRecDepth 100000 in
set_option maxHeartbeats 8000000 in
theorem calWeeks_fd (o0 o1 o2 o3 o4 o5 o6 : Bool) (n m : Int) (dn : dayB n = true) (dm : dayB m = true) (hm : (wkA o0 o1 o2 o3 o4 o5 o6).may = true) (k : Nat) (hk7 : k < 7) (hk : Hid (Cal.wd n = k)) (hv : (wkA o0 o1 o2 o3 o4 o5 o6).off k = false) (hnm : (n == m) = false) (w : World) (hL : Laid w) (hN : AllOff w) : Calls Tryd.prog 13 #[.agg #[.bool o0, .bool o1, .bool o2, .bool o3, .bool o4, .bool o5, .bool o6], .int .i64 n, .int .i64 m] w fun e w' => e = .returned (.bool true) ∧ Below w.heap.size w w' := by
  have hB : Below w.heap.size w w := Below.refl _ _
  go_enter Tryd.func13, Tryd.ntmps13
  have eA : Hid ((wkA o0 o1 o2 o3 o4 o5 o6).is n = true) := Lib.hid (by rw [wkA_is, dn, hk.out, hv]; rfl)
  have e0 : Hid ((wkA o0 o1 o2 o3 o4 o5 o6).is 0 = false) := Lib.hid (CalP.is_out (by omega))
  have e1 : Hid ((wkA o0 o1 o2 o3 o4 o5 o6).is 3652060 = false) := Lib.hid (CalP.is_out (by omega))
  have eM : ∀ D cD, Hid ((wkB o0 o1 o2 o3 o4 o5 o6 D cD m).is m = false) := fun D cD => Lib.hid (by rw [wkB_is]; simp)
  have eB : ∀ D cD, (n == m) = false → Hid ((wkB o0 o1 o2 o3 o4 o5 o6 D cD m).is n = true) := fun D cD h => Lib.hid (by rw [wkB_is, eA.out, h]; rfl)
  have hk0z : (0 : Int) ≤ (k : Int) := by omega
  have hk7z : (k : Int) < 7 := by omega
  have hw := week_at (wkA o0 o1 o2 o3 o4 o5 o6) k hk7; rw [hv] at hw; have HW := Lib.hid hw; clear hw
  (try go_simp); (repeat (first | ((with_reducible refine wp_region_app ?_); simp only [List.cons_append, List.nil_append]) | go_values | go_skip | go_guarded | go_step | go_upon))
  refine (shown13_c _ (hL.below (by repeat (first | assumption | exact Below.refl _ _ | (with_reducible refine Below.drew ?_) | (with_reducible refine below_drewN' ?_ _) | (with_reducible refine below_al ?_) | ((with_reducible refine below_set ?_ ?_); rotate_left; focus (first | (simp; done) | (simp; omega)))))) (hN.below (by repeat (first | assumption | exact Below.refl _ _ | (with_reducible refine Below.drew ?_) | (with_reducible refine below_drewN' ?_ _) | (with_reducible refine below_al ?_) | ((with_reducible refine below_set ?_ ?_); rotate_left; focus (first | (simp; done) | (simp; omega))))))).mono ?_; rintro e w1 ⟨rfl, hb1⟩
  have hz1 := hb1.size; (try simp at hz1); obtain ⟨hc1, hf1⟩ := bcell hb1; have hB1 := below_step (w := w) hb1 (by repeat (first | assumption | exact Below.refl _ _ | (with_reducible refine Below.drew ?_) | (with_reducible refine below_drewN' ?_ _) | (with_reducible refine below_al ?_) | ((with_reducible refine below_set ?_ ?_); rotate_left; focus (first | (simp; done) | (simp; omega)))))
  have le_w_w1 : w.heap.size ≤ w1.heap.size := by omega
  try have lt_w_w1 : w.heap.size < w1.heap.size := by omega
  (try go_simp); (repeat (first | ((with_reducible refine wp_region_app ?_); simp only [List.cons_append, List.nil_append]) | go_values | go_skip | go_guarded | go_step | go_upon))
  refine (rday_c n _).mono ?_; rintro e w' ⟨rfl, rfl⟩
  (try go_simp); (repeat (first | ((with_reducible refine wp_region_app ?_); simp only [List.cons_append, List.nil_append]) | go_values | go_skip | go_guarded | go_step | go_upon))
  refine (rday_c m _).mono ?_; rintro e w' ⟨rfl, rfl⟩
  (try go_simp); (repeat (first | ((with_reducible refine wp_region_app ?_); simp only [List.cons_append, List.nil_append]) | go_values | go_skip | go_guarded | go_step | go_upon))
  refine (rcalMay_c (wkA o0 o1 o2 o3 o4 o5 o6) _ (wkA_in _ _ _ _ _ _ _ _)).mono ?_; rintro e w2 ⟨rfl, hb2⟩
  have hz2 := hb2.size; (try simp at hz2); obtain ⟨hc2, hf2⟩ := bcell hb2; have hB2 := below_step (w := w) hb2 (by repeat (first | assumption | exact Below.refl _ _ | (with_reducible refine Below.drew ?_) | (with_reducible refine below_drewN' ?_ _) | (with_reducible refine below_al ?_) | ((with_reducible refine below_set ?_ ?_); rotate_left; focus (first | (simp; done) | (simp; omega)))))
  have le_w_w2 : w.heap.size ≤ w2.heap.size := by omega
  try have lt_w_w2 : w.heap.size < w2.heap.size := by omega
  have le_w1_w2 : w1.heap.size ≤ w2.heap.size := by omega
  try have lt_w1_w2 : w1.heap.size < w2.heap.size := by omega
  (try go_simp); (repeat (first | ((with_reducible refine wp_region_app ?_); simp only [List.cons_append, List.nil_append]) | go_values | go_skip | go_guarded | go_step | go_upon))
  refine (rwd_c n _).mono ?_; rintro e w' ⟨rfl, rfl⟩
  rw [hk.out]
  (try go_simp); (repeat (first | ((with_reducible refine wp_region_app ?_); simp only [List.cons_append, List.nil_append]) | go_values | go_skip | go_guarded | go_step | go_upon))
  generalize hW : ((w2.alloc _).alloc _) = w3
  have hB3 : Below w.heap.size w w3 := by rw [← hW]; exact below_al (below_al hB2)
  have f0 : w3.cell? ⟨w.heap.size, k, none⟩ = some (.bool false) := by rw [← hW]; exact cell_al (cell_al (below_some hb2 _ _ _ (cell_al (below_some hb1 _ _ _ (cell_nu rfl HW.out)))))
  have fc0 : w3.cell? ⟨w1.heap.size, 0, none⟩ = some (.bool o0) := by rw [← hW]; exact cell_al (cell_al (below_some hb2 _ _ _ (cell_nu rfl rfl)))
  have fd0 : w3.cell? ⟨w2.heap.size + 1, 0, none⟩ = some (.bool o0) := by rw [← hW]; exact cell_nu (by simp) rfl
  have fc1 : w3.cell? ⟨w1.heap.size, 1, none⟩ = some (.bool o1) := by rw [← hW]; exact cell_al (cell_al (below_some hb2 _ _ _ (cell_nu rfl rfl)))
  have fd1 : w3.cell? ⟨w2.heap.size + 1, 1, none⟩ = some (.bool o1) := by rw [← hW]; exact cell_nu (by simp) rfl
  have fc2 : w3.cell? ⟨w1.heap.size, 2, none⟩ = some (.bool o2) := by rw [← hW]; exact cell_al (cell_al (below_some hb2 _ _ _ (cell_nu rfl rfl)))
  have fd2 : w3.cell? ⟨w2.heap.size + 1, 2, none⟩ = some (.bool o2) := by rw [← hW]; exact cell_nu (by simp) rfl
  have fc3 : w3.cell? ⟨w1.heap.size, 3, none⟩ = some (.bool o3) := by rw [← hW]; exact cell_al (cell_al (below_some hb2 _ _ _ (cell_nu rfl rfl)))
  have fd3 : w3.cell? ⟨w2.heap.size + 1, 3, none⟩ = some (.bool o3) := by rw [← hW]; exact cell_nu (by simp) rfl
  have fc4 : w3.cell? ⟨w1.heap.size, 4, none⟩ = some (.bool o4) := by rw [← hW]; exact cell_al (cell_al (below_some hb2 _ _ _ (cell_nu rfl rfl)))
  have fd4 : w3.cell? ⟨w2.heap.size + 1, 4, none⟩ = some (.bool o4) := by rw [← hW]; exact cell_nu (by simp) rfl
  have fc5 : w3.cell? ⟨w1.heap.size, 5, none⟩ = some (.bool o5) := by rw [← hW]; exact cell_al (cell_al (below_some hb2 _ _ _ (cell_nu rfl rfl)))
  have fd5 : w3.cell? ⟨w2.heap.size + 1, 5, none⟩ = some (.bool o5) := by rw [← hW]; exact cell_nu (by simp) rfl
  have fc6 : w3.cell? ⟨w1.heap.size, 6, none⟩ = some (.bool o6) := by rw [← hW]; exact cell_al (cell_al (below_some hb2 _ _ _ (cell_nu rfl rfl)))
  have fd6 : w3.cell? ⟨w2.heap.size + 1, 6, none⟩ = some (.bool o6) := by rw [← hW]; exact cell_nu (by simp) rfl
  have fc7 : w3.cell? ⟨w1.heap.size, 7, none⟩ = some (.slice none 0 0) := by rw [← hW]; exact cell_al (cell_al (below_some hb2 _ _ _ (cell_nu rfl rfl)))
  have fd7 : w3.cell? ⟨w2.heap.size + 1, 7, none⟩ = some (.slice none 0 0) := by rw [← hW]; exact cell_nu (by simp) rfl
  have fc8 : w3.cell? ⟨w1.heap.size, 8, none⟩ = some (.slice none 0 0) := by rw [← hW]; exact cell_al (cell_al (below_some hb2 _ _ _ (cell_nu rfl rfl)))
  have fd8 : w3.cell? ⟨w2.heap.size + 1, 8, none⟩ = some (.slice (some ⟨w2.heap.size, 0, none⟩) 1 1) := by rw [← hW]; exact cell_nu (by simp) rfl
  have hD3 := Lib.hid (show DIn w3 (some ⟨w2.heap.size, 0, none⟩) [m] by rw [← hW]; exact (din_one w2 m).below (below_al (Below.refl _ _)))
  have hL3 := Lib.hid (hL.below hB3)
  clear hW hL hN hb1 hb2 hc1 hf1 hc2 hf2 hB1 hB2 hz1 hz2 le_w_w1 lt_w_w1 le_w_w2 lt_w_w2 le_w1_w2 lt_w1_w2 HW
  have cl0 : w3.cell? ⟨w.heap.size, k, none⟩ = some (.bool false) := f0
  have cl1 : w3.cell? ⟨w1.heap.size, 0, none⟩ = some (.bool o0) := fc0
  have cl2 : w3.cell? ⟨w2.heap.size + 1, 0, none⟩ = some (.bool o0) := fd0
  have cl3 : w3.cell? ⟨w1.heap.size, 1, none⟩ = some (.bool o1) := fc1
  have cl4 : w3.cell? ⟨w2.heap.size + 1, 1, none⟩ = some (.bool o1) := fd1
  have cl5 : w3.cell? ⟨w1.heap.size, 2, none⟩ = some (.bool o2) := fc2
  have cl6 : w3.cell? ⟨w2.heap.size + 1, 2, none⟩ = some (.bool o2) := fd2
  have cl7 : w3.cell? ⟨w1.heap.size, 3, none⟩ = some (.bool o3) := fc3
  have cl8 : w3.cell? ⟨w2.heap.size + 1, 3, none⟩ = some (.bool o3) := fd3
  have cl9 : w3.cell? ⟨w1.heap.size, 4, none⟩ = some (.bool o4) := fc4
  have cl10 : w3.cell? ⟨w2.heap.size + 1, 4, none⟩ = some (.bool o4) := fd4
  have cl11 : w3.cell? ⟨w1.heap.size, 5, none⟩ = some (.bool o5) := fc5
  have cl12 : w3.cell? ⟨w2.heap.size + 1, 5, none⟩ = some (.bool o5) := fd5
  have cl13 : w3.cell? ⟨w1.heap.size, 6, none⟩ = some (.bool o6) := fc6
  have cl14 : w3.cell? ⟨w2.heap.size + 1, 6, none⟩ = some (.bool o6) := fd6
  have cl15 : w3.cell? ⟨w1.heap.size, 7, none⟩ = some (.slice none 0 0) := fc7
  have cl16 : w3.cell? ⟨w2.heap.size + 1, 7, none⟩ = some (.slice none 0 0) := fd7
  have cl17 : w3.cell? ⟨w1.heap.size, 8, none⟩ = some (.slice none 0 0) := fc8
  have cl18 : w3.cell? ⟨w2.heap.size + 1, 8, none⟩ = some (.slice (some ⟨w2.heap.size, 0, none⟩) 1 1) := fd8
  have hRefl : Below w3.heap.size w3 w3 := Below.refl _ _
  have HS : Hid (∀ W, Below w3.heap.size w3 W → (fun W' => Below w3.heap.size w3 W' ∧ W'.cell? ⟨w.heap.size, k, none⟩ = some (.bool false) ∧ W'.cell? ⟨w1.heap.size, 0, none⟩ = some (.bool o0) ∧ W'.cell? ⟨w2.heap.size + 1, 0, none⟩ = some (.bool o0) ∧ W'.cell? ⟨w1.heap.size, 1, none⟩ = some (.bool o1) ∧ W'.cell? ⟨w2.heap.size + 1, 1, none⟩ = some (.bool o1) ∧ W'.cell? ⟨w1.heap.size, 2, none⟩ = some (.bool o2) ∧ W'.cell? ⟨w2.heap.size + 1, 2, none⟩ = some (.bool o2) ∧ W'.cell? ⟨w1.heap.size, 3, none⟩ = some (.bool o3) ∧ W'.cell? ⟨w2.heap.size + 1, 3, none⟩ = some (.bool o3) ∧ W'.cell? ⟨w1.heap.size, 4, none⟩ = some (.bool o4) ∧ W'.cell? ⟨w2.heap.size + 1, 4, none⟩ = some (.bool o4) ∧ W'.cell? ⟨w1.heap.size, 5, none⟩ = some (.bool o5) ∧ W'.cell? ⟨w2.heap.size + 1, 5, none⟩ = some (.bool o5) ∧ W'.cell? ⟨w1.heap.size, 6, none⟩ = some (.bool o6) ∧ W'.cell? ⟨w2.heap.size + 1, 6, none⟩ = some (.bool o6) ∧ W'.cell? ⟨w1.heap.size, 7, none⟩ = some (.slice none 0 0) ∧ W'.cell? ⟨w2.heap.size + 1, 7, none⟩ = some (.slice none 0 0) ∧ W'.cell? ⟨w1.heap.size, 8, none⟩ = some (.slice none 0 0) ∧ W'.cell? ⟨w2.heap.size + 1, 8, none⟩ = some (.slice (some ⟨w2.heap.size, 0, none⟩) 1 1)) W) := Lib.hid (fun W h => ⟨h, below_some h _ _ _ cl0, below_some h _ _ _ cl1, below_some h _ _ _ cl2, below_some h _ _ _ cl3, below_some h _ _ _ cl4, below_some h _ _ _ cl5, below_some h _ _ _ cl6, below_some h _ _ _ cl7, below_some h _ _ _ cl8, below_some h _ _ _ cl9, below_some h _ _ _ cl10, below_some h _ _ _ cl11, below_some h _ _ _ cl12, below_some h _ _ _ cl13, below_some h _ _ _ cl14, below_some h _ _ _ cl15, below_some h _ _ _ cl16, below_some h _ _ _ cl17, below_some h _ _ _ cl18⟩)
  go_region_held3 (fun W' => Below w3.heap.size w3 W' ∧ W'.cell? ⟨w.heap.size, k, none⟩ = some (.bool false) ∧ W'.cell? ⟨w1.heap.size, 0, none⟩ = some (.bool o0) ∧ W'.cell? ⟨w2.heap.size + 1, 0, none⟩ = some (.bool o0) ∧ W'.cell? ⟨w1.heap.size, 1, none⟩ = some (.bool o1) ∧ W'.cell? ⟨w2.heap.size + 1, 1, none⟩ = some (.bool o1) ∧ W'.cell? ⟨w1.heap.size, 2, none⟩ = some (.bool o2) ∧ W'.cell? ⟨w2.heap.size + 1, 2, none⟩ = some (.bool o2) ∧ W'.cell? ⟨w1.heap.size, 3, none⟩ = some (.bool o3) ∧ W'.cell? ⟨w2.heap.size + 1, 3, none⟩ = some (.bool o3) ∧ W'.cell? ⟨w1.heap.size, 4, none⟩ = some (.bool o4) ∧ W'.cell? ⟨w2.heap.size + 1, 4, none⟩ = some (.bool o4) ∧ W'.cell? ⟨w1.heap.size, 5, none⟩ = some (.bool o5) ∧ W'.cell? ⟨w2.heap.size + 1, 5, none⟩ = some (.bool o5) ∧ W'.cell? ⟨w1.heap.size, 6, none⟩ = some (.bool o6) ∧ W'.cell? ⟨w2.heap.size + 1, 6, none⟩ = some (.bool o6) ∧ W'.cell? ⟨w1.heap.size, 7, none⟩ = some (.slice none 0 0) ∧ W'.cell? ⟨w2.heap.size + 1, 7, none⟩ = some (.slice none 0 0) ∧ W'.cell? ⟨w1.heap.size, 8, none⟩ = some (.slice none 0 0) ∧ W'.cell? ⟨w2.heap.size + 1, 8, none⟩ = some (.slice (some ⟨w2.heap.size, 0, none⟩) 1 1)) ((refine HS.out _ ?_; repeat (first | (with_reducible assumption) | (with_reducible exact Below.refl _ _) | (with_reducible refine Below.drew ?_) | (with_reducible refine below_drewN' ?_ _) | (with_reducible refine below_al ?_) | ((with_reducible refine below_set ?_ ?_); rotate_left; focus (first | (simp; done) | (simp; omega)))))) (first | (go_at_call_of 36 (Value.int .i64 0); refine (isA_c _ _ _ _ _ _ _ 0 _ e0 _ (hL3.out.below (by repeat (first | (with_reducible assumption) | (with_reducible exact Below.refl _ _) | (with_reducible refine Below.drew ?_) | (with_reducible refine below_drewN' ?_ _) | (with_reducible refine below_al ?_) | ((with_reducible refine below_set ?_ ?_); rotate_left; focus (first | (simp; done) | (simp; omega))))))).mono ?_; rintro e wq ⟨rfl, hbq⟩; have hBq := below_step (w := w3) hbq (by repeat (first | (with_reducible assumption) | (with_reducible exact Below.refl _ _) | (with_reducible refine Below.drew ?_) | (with_reducible refine below_drewN' ?_ _) | (with_reducible refine below_al ?_) | ((with_reducible refine below_set ?_ ?_); rotate_left; focus (first | (simp; done) | (simp; omega)))))) | (go_at_call_of 36 (Value.int .i64 3652060); refine (isA_c _ _ _ _ _ _ _ 3652060 _ e1 _ (hL3.out.below (by repeat (first | (with_reducible assumption) | (with_reducible exact Below.refl _ _) | (with_reducible refine Below.drew ?_) | (with_reducible refine below_drewN' ?_ _) | (with_reducible refine below_al ?_) | ((with_reducible refine below_set ?_ ?_); rotate_left; focus (first | (simp; done) | (simp; omega))))))).mono ?_; rintro e wq ⟨rfl, hbq⟩; have hBq := below_step (w := w3) hbq (by repeat (first | (with_reducible assumption) | (with_reducible exact Below.refl _ _) | (with_reducible refine Below.drew ?_) | (with_reducible refine below_drewN' ?_ _) | (with_reducible refine below_al ?_) | ((with_reducible refine below_set ?_ ?_); rotate_left; focus (first | (simp; done) | (simp; omega)))))) | (go_at_call_of 36 (Value.agg #[.bool o0, .bool o1, .bool o2, .bool o3, .bool o4, .bool o5, .bool o6, .slice none 0 0, .slice none 0 0]); refine (isA_c _ _ _ _ _ _ _ n _ eA _ (hL3.out.below (by repeat (first | (with_reducible assumption) | (with_reducible exact Below.refl _ _) | (with_reducible refine Below.drew ?_) | (with_reducible refine below_drewN' ?_ _) | (with_reducible refine below_al ?_) | ((with_reducible refine below_set ?_ ?_); rotate_left; focus (first | (simp; done) | (simp; omega))))))).mono ?_; rintro e wq ⟨rfl, hbq⟩; have hBq := below_step (w := w3) hbq (by repeat (first | (with_reducible assumption) | (with_reducible exact Below.refl _ _) | (with_reducible refine Below.drew ?_) | (with_reducible refine below_drewN' ?_ _) | (with_reducible refine below_al ?_) | ((with_reducible refine below_set ?_ ?_); rotate_left; focus (first | (simp; done) | (simp; omega)))))) | (go_at_call_of 36 (Value.int .i64 m); refine (isB_c _ _ _ _ _ _ _ _ _ m m _ (eM _ _) _ (hL3.out.below (by repeat (first | (with_reducible assumption) | (with_reducible exact Below.refl _ _) | (with_reducible refine Below.drew ?_) | (with_reducible refine below_drewN' ?_ _) | (with_reducible refine below_al ?_) | ((with_reducible refine below_set ?_ ?_); rotate_left; focus (first | (simp; done) | (simp; omega)))))) (hD3.out.below (by repeat (first | (with_reducible assumption) | (with_reducible exact Below.refl _ _) | (with_reducible refine Below.drew ?_) | (with_reducible refine below_drewN' ?_ _) | (with_reducible refine below_al ?_) | ((with_reducible refine below_set ?_ ?_); rotate_left; focus (first | (simp; done) | (simp; omega))))))).mono ?_; rintro e wq ⟨rfl, hbq⟩; have hBq := below_step (w := w3) hbq (by repeat (first | (with_reducible assumption) | (with_reducible exact Below.refl _ _) | (with_reducible refine Below.drew ?_) | (with_reducible refine below_drewN' ?_ _) | (with_reducible refine below_al ?_) | ((with_reducible refine below_set ?_ ?_); rotate_left; focus (first | (simp; done) | (simp; omega)))))) | (go_at_call_of 36 (Value.int .i64 n); refine (isB_c _ _ _ _ _ _ _ _ _ m n _ (eB _ _ hnm) _ (hL3.out.below (by repeat (first | (with_reducible assumption) | (with_reducible exact Below.refl _ _) | (with_reducible refine Below.drew ?_) | (with_reducible refine below_drewN' ?_ _) | (with_reducible refine below_al ?_) | ((with_reducible refine below_set ?_ ?_); rotate_left; focus (first | (simp; done) | (simp; omega)))))) (hD3.out.below (by repeat (first | (with_reducible assumption) | (with_reducible exact Below.refl _ _) | (with_reducible refine Below.drew ?_) | (with_reducible refine below_drewN' ?_ _) | (with_reducible refine below_al ?_) | ((with_reducible refine below_set ?_ ?_); rotate_left; focus (first | (simp; done) | (simp; omega))))))).mono ?_; rintro e wq ⟨rfl, hbq⟩; have hBq := below_step (w := w3) hbq (by repeat (first | (with_reducible assumption) | (with_reducible exact Below.refl _ _) | (with_reducible refine Below.drew ?_) | (with_reducible refine below_drewN' ?_ _) | (with_reducible refine below_al ?_) | ((with_reducible refine below_set ?_ ?_); rotate_left; focus (first | (simp; done) | (simp; omega)))))))
  all_goals ((try go_simp); (repeat (first | ((with_reducible refine wp_region_app ?_); simp only [List.cons_append, List.nil_append]) | go_values | go_skip | go_guarded | go_step | go_upon)); go_ret; exact ⟨rfl, hB3.trans ((by repeat (first | (with_reducible assumption) | (with_reducible exact Below.refl _ _) | (with_reducible refine Below.drew ?_) | (with_reducible refine below_drewN' ?_ _) | (with_reducible refine below_al ?_) | ((with_reducible refine below_set ?_ ?_); rotate_left; focus (first | (simp; done) | (simp; omega)))) : Below w3.heap.size w3 _).mono hB3.size)⟩)
set_option maxRecDepth 100000 in
set_option maxHeartbeats 8000000 in
theorem calWeeks_fe (o0 o1 o2 o3 o4 o5 o6 : Bool) (n m : Int) (dn : dayB n = true) (dm : dayB m = true) (hm : (wkA o0 o1 o2 o3 o4 o5 o6).may = true) (k : Nat) (hk7 : k < 7) (hk : Hid (Cal.wd n = k)) (hv : (wkA o0 o1 o2 o3 o4 o5 o6).off k = false) (hnm : (n == m) = true) (w : World) (hL : Laid w) (hN : AllOff w) : Calls Tryd.prog 13 #[.agg #[.bool o0, .bool o1, .bool o2, .bool o3, .bool o4, .bool o5, .bool o6], .int .i64 n, .int .i64 m] w fun e w' => e = .returned (.bool true) ∧ Below w.heap.size w w' := by
  have hB : Below w.heap.size w w := Below.refl _ _
  go_enter Tryd.func13, Tryd.ntmps13
  have eA : Hid ((wkA o0 o1 o2 o3 o4 o5 o6).is n = true) := Lib.hid (by rw [wkA_is, dn, hk.out, hv]; rfl)
  have e0 : Hid ((wkA o0 o1 o2 o3 o4 o5 o6).is 0 = false) := Lib.hid (CalP.is_out (by omega))
  have e1 : Hid ((wkA o0 o1 o2 o3 o4 o5 o6).is 3652060 = false) := Lib.hid (CalP.is_out (by omega))
  have eM : ∀ D cD, Hid ((wkB o0 o1 o2 o3 o4 o5 o6 D cD m).is m = false) := fun D cD => Lib.hid (by rw [wkB_is]; simp)
  have hk0z : (0 : Int) ≤ (k : Int) := by omega
  have hk7z : (k : Int) < 7 := by omega
  have hw := week_at (wkA o0 o1 o2 o3 o4 o5 o6) k hk7; rw [hv] at hw; have HW := Lib.hid hw; clear hw
  (try go_simp); (repeat (first | ((with_reducible refine wp_region_app ?_); simp only [List.cons_append, List.nil_append]) | go_values | go_skip | go_guarded | go_step | go_upon))
  refine (shown13_c _ (hL.below (by repeat (first | assumption | exact Below.refl _ _ | (with_reducible refine Below.drew ?_) | (with_reducible refine below_drewN' ?_ _) | (with_reducible refine below_al ?_) | ((with_reducible refine below_set ?_ ?_); rotate_left; focus (first | (simp; done) | (simp; omega)))))) (hN.below (by repeat (first | assumption | exact Below.refl _ _ | (with_reducible refine Below.drew ?_) | (with_reducible refine below_drewN' ?_ _) | (with_reducible refine below_al ?_) | ((with_reducible refine below_set ?_ ?_); rotate_left; focus (first | (simp; done) | (simp; omega))))))).mono ?_; rintro e w1 ⟨rfl, hb1⟩
  have hz1 := hb1.size; (try simp at hz1); obtain ⟨hc1, hf1⟩ := bcell hb1; have hB1 := below_step (w := w) hb1 (by repeat (first | assumption | exact Below.refl _ _ | (with_reducible refine Below.drew ?_) | (with_reducible refine below_drewN' ?_ _) | (with_reducible refine below_al ?_) | ((with_reducible refine below_set ?_ ?_); rotate_left; focus (first | (simp; done) | (simp; omega)))))
  have le_w_w1 : w.heap.size ≤ w1.heap.size := by omega
  try have lt_w_w1 : w.heap.size < w1.heap.size := by omega
  (try go_simp); (repeat (first | ((with_reducible refine wp_region_app ?_); simp only [List.cons_append, List.nil_append]) | go_values | go_skip | go_guarded | go_step | go_upon))
  refine (rday_c n _).mono ?_; rintro e w' ⟨rfl, rfl⟩
  (try go_simp); (repeat (first | ((with_reducible refine wp_region_app ?_); simp only [List.cons_append, List.nil_append]) | go_values | go_skip | go_guarded | go_step | go_upon))
  refine (rday_c m _).mono ?_; rintro e w' ⟨rfl, rfl⟩
  (try go_simp); (repeat (first | ((with_reducible refine wp_region_app ?_); simp only [List.cons_append, List.nil_append]) | go_values | go_skip | go_guarded | go_step | go_upon))
  refine (rcalMay_c (wkA o0 o1 o2 o3 o4 o5 o6) _ (wkA_in _ _ _ _ _ _ _ _)).mono ?_; rintro e w2 ⟨rfl, hb2⟩
  have hz2 := hb2.size; (try simp at hz2); obtain ⟨hc2, hf2⟩ := bcell hb2; have hB2 := below_step (w := w) hb2 (by repeat (first | assumption | exact Below.refl _ _ | (with_reducible refine Below.drew ?_) | (with_reducible refine below_drewN' ?_ _) | (with_reducible refine below_al ?_) | ((with_reducible refine below_set ?_ ?_); rotate_left; focus (first | (simp; done) | (simp; omega)))))
  have le_w_w2 : w.heap.size ≤ w2.heap.size := by omega
  try have lt_w_w2 : w.heap.size < w2.heap.size := by omega
  have le_w1_w2 : w1.heap.size ≤ w2.heap.size := by omega
  try have lt_w1_w2 : w1.heap.size < w2.heap.size := by omega
  (try go_simp); (repeat (first | ((with_reducible refine wp_region_app ?_); simp only [List.cons_append, List.nil_append]) | go_values | go_skip | go_guarded | go_step | go_upon))
  refine (rwd_c n _).mono ?_; rintro e w' ⟨rfl, rfl⟩
  rw [hk.out]
  (try go_simp); (repeat (first | ((with_reducible refine wp_region_app ?_); simp only [List.cons_append, List.nil_append]) | go_values | go_skip | go_guarded | go_step | go_upon))
  generalize hW : ((w2.alloc _).alloc _) = w3
  have hB3 : Below w.heap.size w w3 := by rw [← hW]; exact below_al (below_al hB2)
  have f0 : w3.cell? ⟨w.heap.size, k, none⟩ = some (.bool false) := by rw [← hW]; exact cell_al (cell_al (below_some hb2 _ _ _ (cell_al (below_some hb1 _ _ _ (cell_nu rfl HW.out)))))
  have fc0 : w3.cell? ⟨w1.heap.size, 0, none⟩ = some (.bool o0) := by rw [← hW]; exact cell_al (cell_al (below_some hb2 _ _ _ (cell_nu rfl rfl)))
  have fd0 : w3.cell? ⟨w2.heap.size + 1, 0, none⟩ = some (.bool o0) := by rw [← hW]; exact cell_nu (by simp) rfl
  have fc1 : w3.cell? ⟨w1.heap.size, 1, none⟩ = some (.bool o1) := by rw [← hW]; exact cell_al (cell_al (below_some hb2 _ _ _ (cell_nu rfl rfl)))
  have fd1 : w3.cell? ⟨w2.heap.size + 1, 1, none⟩ = some (.bool o1) := by rw [← hW]; exact cell_nu (by simp) rfl
  have fc2 : w3.cell? ⟨w1.heap.size, 2, none⟩ = some (.bool o2) := by rw [← hW]; exact cell_al (cell_al (below_some hb2 _ _ _ (cell_nu rfl rfl)))
  have fd2 : w3.cell? ⟨w2.heap.size + 1, 2, none⟩ = some (.bool o2) := by rw [← hW]; exact cell_nu (by simp) rfl
  have fc3 : w3.cell? ⟨w1.heap.size, 3, none⟩ = some (.bool o3) := by rw [← hW]; exact cell_al (cell_al (below_some hb2 _ _ _ (cell_nu rfl rfl)))
  have fd3 : w3.cell? ⟨w2.heap.size + 1, 3, none⟩ = some (.bool o3) := by rw [← hW]; exact cell_nu (by simp) rfl
  have fc4 : w3.cell? ⟨w1.heap.size, 4, none⟩ = some (.bool o4) := by rw [← hW]; exact cell_al (cell_al (below_some hb2 _ _ _ (cell_nu rfl rfl)))
  have fd4 : w3.cell? ⟨w2.heap.size + 1, 4, none⟩ = some (.bool o4) := by rw [← hW]; exact cell_nu (by simp) rfl
  have fc5 : w3.cell? ⟨w1.heap.size, 5, none⟩ = some (.bool o5) := by rw [← hW]; exact cell_al (cell_al (below_some hb2 _ _ _ (cell_nu rfl rfl)))
  have fd5 : w3.cell? ⟨w2.heap.size + 1, 5, none⟩ = some (.bool o5) := by rw [← hW]; exact cell_nu (by simp) rfl
  have fc6 : w3.cell? ⟨w1.heap.size, 6, none⟩ = some (.bool o6) := by rw [← hW]; exact cell_al (cell_al (below_some hb2 _ _ _ (cell_nu rfl rfl)))
  have fd6 : w3.cell? ⟨w2.heap.size + 1, 6, none⟩ = some (.bool o6) := by rw [← hW]; exact cell_nu (by simp) rfl
  have fc7 : w3.cell? ⟨w1.heap.size, 7, none⟩ = some (.slice none 0 0) := by rw [← hW]; exact cell_al (cell_al (below_some hb2 _ _ _ (cell_nu rfl rfl)))
  have fd7 : w3.cell? ⟨w2.heap.size + 1, 7, none⟩ = some (.slice none 0 0) := by rw [← hW]; exact cell_nu (by simp) rfl
  have fc8 : w3.cell? ⟨w1.heap.size, 8, none⟩ = some (.slice none 0 0) := by rw [← hW]; exact cell_al (cell_al (below_some hb2 _ _ _ (cell_nu rfl rfl)))
  have fd8 : w3.cell? ⟨w2.heap.size + 1, 8, none⟩ = some (.slice (some ⟨w2.heap.size, 0, none⟩) 1 1) := by rw [← hW]; exact cell_nu (by simp) rfl
  have hD3 := Lib.hid (show DIn w3 (some ⟨w2.heap.size, 0, none⟩) [m] by rw [← hW]; exact (din_one w2 m).below (below_al (Below.refl _ _)))
  have hL3 := Lib.hid (hL.below hB3)
  clear hW hL hN hb1 hb2 hc1 hf1 hc2 hf2 hB1 hB2 hz1 hz2 le_w_w1 lt_w_w1 le_w_w2 lt_w_w2 le_w1_w2 lt_w1_w2 HW
  have cl0 : w3.cell? ⟨w.heap.size, k, none⟩ = some (.bool false) := f0
  have cl1 : w3.cell? ⟨w1.heap.size, 0, none⟩ = some (.bool o0) := fc0
  have cl2 : w3.cell? ⟨w2.heap.size + 1, 0, none⟩ = some (.bool o0) := fd0
  have cl3 : w3.cell? ⟨w1.heap.size, 1, none⟩ = some (.bool o1) := fc1
  have cl4 : w3.cell? ⟨w2.heap.size + 1, 1, none⟩ = some (.bool o1) := fd1
  have cl5 : w3.cell? ⟨w1.heap.size, 2, none⟩ = some (.bool o2) := fc2
  have cl6 : w3.cell? ⟨w2.heap.size + 1, 2, none⟩ = some (.bool o2) := fd2
  have cl7 : w3.cell? ⟨w1.heap.size, 3, none⟩ = some (.bool o3) := fc3
  have cl8 : w3.cell? ⟨w2.heap.size + 1, 3, none⟩ = some (.bool o3) := fd3
  have cl9 : w3.cell? ⟨w1.heap.size, 4, none⟩ = some (.bool o4) := fc4
  have cl10 : w3.cell? ⟨w2.heap.size + 1, 4, none⟩ = some (.bool o4) := fd4
  have cl11 : w3.cell? ⟨w1.heap.size, 5, none⟩ = some (.bool o5) := fc5
  have cl12 : w3.cell? ⟨w2.heap.size + 1, 5, none⟩ = some (.bool o5) := fd5
  have cl13 : w3.cell? ⟨w1.heap.size, 6, none⟩ = some (.bool o6) := fc6
  have cl14 : w3.cell? ⟨w2.heap.size + 1, 6, none⟩ = some (.bool o6) := fd6
  have cl15 : w3.cell? ⟨w1.heap.size, 7, none⟩ = some (.slice none 0 0) := fc7
  have cl16 : w3.cell? ⟨w2.heap.size + 1, 7, none⟩ = some (.slice none 0 0) := fd7
  have cl17 : w3.cell? ⟨w1.heap.size, 8, none⟩ = some (.slice none 0 0) := fc8
  have cl18 : w3.cell? ⟨w2.heap.size + 1, 8, none⟩ = some (.slice (some ⟨w2.heap.size, 0, none⟩) 1 1) := fd8
  have hRefl : Below w3.heap.size w3 w3 := Below.refl _ _
  have HS : Hid (∀ W, Below w3.heap.size w3 W → (fun W' => Below w3.heap.size w3 W' ∧ W'.cell? ⟨w.heap.size, k, none⟩ = some (.bool false) ∧ W'.cell? ⟨w1.heap.size, 0, none⟩ = some (.bool o0) ∧ W'.cell? ⟨w2.heap.size + 1, 0, none⟩ = some (.bool o0) ∧ W'.cell? ⟨w1.heap.size, 1, none⟩ = some (.bool o1) ∧ W'.cell? ⟨w2.heap.size + 1, 1, none⟩ = some (.bool o1) ∧ W'.cell? ⟨w1.heap.size, 2, none⟩ = some (.bool o2) ∧ W'.cell? ⟨w2.heap.size + 1, 2, none⟩ = some (.bool o2) ∧ W'.cell? ⟨w1.heap.size, 3, none⟩ = some (.bool o3) ∧ W'.cell? ⟨w2.heap.size + 1, 3, none⟩ = some (.bool o3) ∧ W'.cell? ⟨w1.heap.size, 4, none⟩ = some (.bool o4) ∧ W'.cell? ⟨w2.heap.size + 1, 4, none⟩ = some (.bool o4) ∧ W'.cell? ⟨w1.heap.size, 5, none⟩ = some (.bool o5) ∧ W'.cell? ⟨w2.heap.size + 1, 5, none⟩ = some (.bool o5) ∧ W'.cell? ⟨w1.heap.size, 6, none⟩ = some (.bool o6) ∧ W'.cell? ⟨w2.heap.size + 1, 6, none⟩ = some (.bool o6) ∧ W'.cell? ⟨w1.heap.size, 7, none⟩ = some (.slice none 0 0) ∧ W'.cell? ⟨w2.heap.size + 1, 7, none⟩ = some (.slice none 0 0) ∧ W'.cell? ⟨w1.heap.size, 8, none⟩ = some (.slice none 0 0) ∧ W'.cell? ⟨w2.heap.size + 1, 8, none⟩ = some (.slice (some ⟨w2.heap.size, 0, none⟩) 1 1)) W) := Lib.hid (fun W h => ⟨h, below_some h _ _ _ cl0, below_some h _ _ _ cl1, below_some h _ _ _ cl2, below_some h _ _ _ cl3, below_some h _ _ _ cl4, below_some h _ _ _ cl5, below_some h _ _ _ cl6, below_some h _ _ _ cl7, below_some h _ _ _ cl8, below_some h _ _ _ cl9, below_some h _ _ _ cl10, below_some h _ _ _ cl11, below_some h _ _ _ cl12, below_some h _ _ _ cl13, below_some h _ _ _ cl14, below_some h _ _ _ cl15, below_some h _ _ _ cl16, below_some h _ _ _ cl17, below_some h _ _ _ cl18⟩)
  refine wp_region_held_drew (S := (fun W' => Below w3.heap.size w3 W' ∧ W'.cell? ⟨w.heap.size, k, none⟩ = some (.bool false) ∧ W'.cell? ⟨w1.heap.size, 0, none⟩ = some (.bool o0) ∧ W'.cell? ⟨w2.heap.size + 1, 0, none⟩ = some (.bool o0) ∧ W'.cell? ⟨w1.heap.size, 1, none⟩ = some (.bool o1) ∧ W'.cell? ⟨w2.heap.size + 1, 1, none⟩ = some (.bool o1) ∧ W'.cell? ⟨w1.heap.size, 2, none⟩ = some (.bool o2) ∧ W'.cell? ⟨w2.heap.size + 1, 2, none⟩ = some (.bool o2) ∧ W'.cell? ⟨w1.heap.size, 3, none⟩ = some (.bool o3) ∧ W'.cell? ⟨w2.heap.size + 1, 3, none⟩ = some (.bool o3) ∧ W'.cell? ⟨w1.heap.size, 4, none⟩ = some (.bool o4) ∧ W'.cell? ⟨w2.heap.size + 1, 4, none⟩ = some (.bool o4) ∧ W'.cell? ⟨w1.heap.size, 5, none⟩ = some (.bool o5) ∧ W'.cell? ⟨w2.heap.size + 1, 5, none⟩ = some (.bool o5) ∧ W'.cell? ⟨w1.heap.size, 6, none⟩ = some (.bool o6) ∧ W'.cell? ⟨w2.heap.size + 1, 6, none⟩ = some (.bool o6) ∧ W'.cell? ⟨w1.heap.size, 7, none⟩ = some (.slice none 0 0) ∧ W'.cell? ⟨w2.heap.size + 1, 7, none⟩ = some (.slice none 0 0) ∧ W'.cell? ⟨w1.heap.size, 8, none⟩ = some (.slice none 0 0) ∧ W'.cell? ⟨w2.heap.size + 1, 8, none⟩ = some (.slice (some ⟨w2.heap.size, 0, none⟩) 1 1))) (by kernel_rfl) ?_ (fun hHeld => ?_)
  · (refine HS.out _ ?_; repeat (first | (with_reducible assumption) | (with_reducible exact Below.refl _ _) | (with_reducible refine Below.drew ?_) | (with_reducible refine below_drewN' ?_ _) | (with_reducible refine below_al ?_) | ((with_reducible refine below_set ?_ ?_); rotate_left; focus (first | (simp; done) | (simp; omega)))))
  refine wpAnyH_take (i := 0) (oi := ?_) (v := ?_) ?_ (by kernel_rfl) (by kernel_rfl) (by kernel_rfl) ?_ (Or.inl ⟨?_, ?_⟩) (by assumption) ?_; rotate_left 2
  · ((try simp only [List.getElem?_toArray, List.getElem?_cons_succ, List.getElem?_cons_zero]); rfl)
  · exact (fun _ _ _ h => h)
  · rfl
  · (intro w hSw; (try dsimp only at hSw); go_simp; (try with_reducible rfl))
  (try simp only [Act.put, List.setIfInBounds_toArray, List.set_cons_zero, List.set_cons_succ])
  refine wpAnyH_take (i := 1) (oi := ?_) (v := ?_) ?_ (by kernel_rfl) (by kernel_rfl) (by kernel_rfl) ?_ (Or.inl ⟨?_, ?_⟩) (by assumption) ?_; rotate_left 2
  · ((try simp only [List.getElem?_toArray, List.getElem?_cons_succ, List.getElem?_cons_zero]); rfl)
  · exact (fun _ _ _ h => h)
  · rfl
  · (intro w hSw; (try dsimp only at hSw); go_simp; (try with_reducible rfl))
  (try simp only [Act.put, List.setIfInBounds_toArray, List.set_cons_zero, List.set_cons_succ])
  refine wpAnyH_take (i := 2) (oi := ?_) (v := ?_) ?_ (by kernel_rfl) (by kernel_rfl) (by kernel_rfl) ?_ (Or.inl ⟨?_, ?_⟩) (by assumption) ?_; rotate_left 2
  · ((try simp only [List.getElem?_toArray, List.getElem?_cons_succ, List.getElem?_cons_zero]); rfl)
  · exact (fun _ _ _ h => h)
  · rfl
  · (intro w hSw; (try dsimp only at hSw); go_simp; (try with_reducible rfl))
  (try simp only [Act.put, List.setIfInBounds_toArray, List.set_cons_zero, List.set_cons_succ])
  refine wpAnyH_take (i := 3) (oi := ?_) (v := ?_) ?_ (by kernel_rfl) (by kernel_rfl) (by kernel_rfl) ?_ (Or.inl ⟨?_, ?_⟩) (by assumption) ?_; rotate_left 2
  · ((try simp only [List.getElem?_toArray, List.getElem?_cons_succ, List.getElem?_cons_zero]); rfl)
  · exact (fun _ _ _ h => h)
  · rfl
  · (intro w hSw; (try dsimp only at hSw); go_simp; (try with_reducible rfl))
  (try simp only [Act.put, List.setIfInBounds_toArray, List.set_cons_zero, List.set_cons_succ])
  refine wpAnyH_take (i := 5) (oi := ?_) (v := ?_) ?_ (by kernel_rfl) (by kernel_rfl) (by kernel_rfl) ?_ (Or.inl ⟨?_, ?_⟩) (by assumption) ?_; rotate_left 2
  · ((try simp only [List.getElem?_toArray, List.getElem?_cons_succ, List.getElem?_cons_zero]); rfl)
  · exact (fun _ _ _ h => h)
  · rfl
  · (intro w hSw; (try dsimp only at hSw); go_simp; (try with_reducible rfl))
  (try simp only [Act.put, List.setIfInBounds_toArray, List.set_cons_zero, List.set_cons_succ])
  refine wpAnyH_take (i := 6) (oi := ?_) (v := ?_) ?_ (by kernel_rfl) (by kernel_rfl) (by kernel_rfl) ?_ (Or.inl ⟨?_, ?_⟩) (by assumption) ?_; rotate_left 2
  · ((try simp only [List.getElem?_toArray, List.getElem?_cons_succ, List.getElem?_cons_zero]); rfl)
  · exact (fun _ _ _ h => h)
  · rfl
  · (intro w hSw; (try dsimp only at hSw); go_simp; (try with_reducible rfl))
  (try simp only [Act.put, List.setIfInBounds_toArray, List.set_cons_zero, List.set_cons_succ])
  refine wpAnyH_take (i := 7) (oi := ?_) (v := ?_) ?_ (by kernel_rfl) (by kernel_rfl) (by kernel_rfl) ?_ (Or.inl ⟨?_, ?_⟩) (by assumption) ?_; rotate_left 2
  · ((try simp only [List.getElem?_toArray, List.getElem?_cons_succ, List.getElem?_cons_zero]); rfl)
  · exact (fun _ _ _ h => h)
  · rfl
  · (intro w hSw; (try dsimp only at hSw); go_simp; (try with_reducible rfl))
  (try simp only [Act.put, List.setIfInBounds_toArray, List.set_cons_zero, List.set_cons_succ])
  refine wpAnyH_take (i := 8) (oi := ?_) (v := ?_) ?_ (by kernel_rfl) (by kernel_rfl) (by kernel_rfl) ?_ (Or.inl ⟨?_, ?_⟩) (by assumption) ?_; rotate_left 2
  · ((try simp only [List.getElem?_toArray, List.getElem?_cons_succ, List.getElem?_cons_zero]); rfl)
  · exact (fun _ _ _ h => h)
  · rfl
  · (intro w hSw; (try dsimp only at hSw); go_simp; (try with_reducible rfl))
  (try simp only [Act.put, List.setIfInBounds_toArray, List.set_cons_zero, List.set_cons_succ])
  refine wpAnyH_ready (rs := [4]) (by kernel_rfl) (by simp) ?_
  refine AllReadyH.cons (o := ?_) ?_ (fun K hK => ?_) AllReadyH.nil; rotate_left 1
  · ((try simp only [List.getElem?_toArray, List.getElem?_cons_succ, List.getElem?_cons_zero]); rfl)
  go_simp
  refine (isA_c _ _ _ _ _ _ _ n _ eA _ (hL3.out.below (by repeat (first | (with_reducible assumption) | (with_reducible exact Below.refl _ _) | (with_reducible refine Below.drew ?_) | (with_reducible refine below_drewN' ?_ _) | (with_reducible refine below_al ?_) | ((with_reducible refine below_set ?_ ?_); rotate_left; focus (first | (simp; done) | (simp; omega))))))).mono ?_; rintro e wq ⟨rfl, hbq⟩; have hBq := below_step (w := w3) hbq (by repeat (first | (with_reducible assumption) | (with_reducible exact Below.refl _ _) | (with_reducible refine Below.drew ?_) | (with_reducible refine below_drewN' ?_ _) | (with_reducible refine below_al ?_) | ((with_reducible refine below_set ?_ ?_); rotate_left; focus (first | (simp; done) | (simp; omega))))); clear hbq
  (try go_wp2_with fail)
  refine hK.out _ _ ?_ (fun hNew => ?_)
  · (refine HS.out _ ?_; repeat (first | (with_reducible assumption) | (with_reducible exact Below.refl _ _) | (with_reducible refine Below.drew ?_) | (with_reducible refine below_drewN' ?_ _) | (with_reducible refine below_al ?_) | ((with_reducible refine below_set ?_ ?_); rotate_left; focus (first | (simp; done) | (simp; omega)))))
  clear hK K hHeld; have hHeld := hNew; clear hNew
  (try simp only [Act.put, List.setIfInBounds_toArray, List.set_cons_zero, List.set_cons_succ])
  refine wpAnyH_take (i := 9) (oi := ?_) (v := ?_) ?_ (by kernel_rfl) (by kernel_rfl) (by kernel_rfl) ?_ (Or.inl ⟨?_, ?_⟩) (by assumption) ?_; rotate_left 2
  · ((try simp only [List.getElem?_toArray, List.getElem?_cons_succ, List.getElem?_cons_zero]); rfl)
  · exact (fun _ _ _ h => h)
  · rfl
  · (intro w hSw; (try dsimp only at hSw); go_simp; (try with_reducible rfl))
  (try simp only [Act.put, List.setIfInBounds_toArray, List.set_cons_zero, List.set_cons_succ])
  refine wpAnyH_take (i := 10) (oi := ?_) (v := ?_) ?_ (by kernel_rfl) (by kernel_rfl) (by kernel_rfl) ?_ (Or.inl ⟨?_, ?_⟩) (by assumption) ?_; rotate_left 2
  · ((try simp only [List.getElem?_toArray, List.getElem?_cons_succ, List.getElem?_cons_zero]); rfl)
  · exact (fun _ _ _ h => h)
  · rfl
  · (intro w hSw; (try dsimp only at hSw); go_simp; (try with_reducible rfl))
  (try simp only [Act.put, List.setIfInBounds_toArray, List.set_cons_zero, List.set_cons_succ])
  refine wpAnyH_take (i := 11) (oi := ?_) (v := ?_) ?_ (by kernel_rfl) (by kernel_rfl) (by kernel_rfl) ?_ (Or.inl ⟨?_, ?_⟩) (by assumption) ?_; rotate_left 2
  · ((try simp only [List.getElem?_toArray, List.getElem?_cons_succ, List.getElem?_cons_zero]); rfl)
  · exact (fun _ _ _ h => h)
  · rfl
  · (intro w hSw; (try dsimp only at hSw); go_simp; (try with_reducible rfl))
  (try simp only [Act.put, List.setIfInBounds_toArray, List.set_cons_zero, List.set_cons_succ])
  refine wpAnyH_take (i := 12) (oi := ?_) (v := ?_) ?_ (by kernel_rfl) (by kernel_rfl) (by kernel_rfl) ?_ (Or.inl ⟨?_, ?_⟩) (by assumption) ?_; rotate_left 2
  · ((try simp only [List.getElem?_toArray, List.getElem?_cons_succ, List.getElem?_cons_zero]); rfl)
  · exact (fun _ _ _ h => h)
  · rfl
  · (intro w hSw; (try dsimp only at hSw); go_simp; (try with_reducible rfl))
  (try simp only [Act.put, List.setIfInBounds_toArray, List.set_cons_zero, List.set_cons_succ])
  refine wpAnyH_take (i := 13) (oi := ?_) (v := ?_) ?_ (by kernel_rfl) (by kernel_rfl) (by kernel_rfl) ?_ (Or.inl ⟨?_, ?_⟩) (by assumption) ?_; rotate_left 2
  · ((try simp only [List.getElem?_toArray, List.getElem?_cons_succ, List.getElem?_cons_zero]); rfl)
  · exact (fun _ _ _ h => h)
  · rfl
  · (intro w hSw; (try dsimp only at hSw); go_simp; (try with_reducible rfl))
  (try simp only [Act.put, List.setIfInBounds_toArray, List.set_cons_zero, List.set_cons_succ])
  refine wpAnyH_ready (rs := [14]) (by kernel_rfl) (by simp) ?_
  refine AllReadyH.cons (o := ?_) ?_ (fun K hK => ?_) AllReadyH.nil; rotate_left 1
  · ((try simp only [List.getElem?_toArray, List.getElem?_cons_succ, List.getElem?_cons_zero]); rfl)
  go_simp
  refine (isB_c _ _ _ _ _ _ _ _ _ m m _ (eM _ _) _ (hL3.out.below (by repeat (first | (with_reducible assumption) | (with_reducible exact Below.refl _ _) | (with_reducible refine Below.drew ?_) | (with_reducible refine below_drewN' ?_ _) | (with_reducible refine below_al ?_) | ((with_reducible refine below_set ?_ ?_); rotate_left; focus (first | (simp; done) | (simp; omega)))))) (hD3.out.below (by repeat (first | (with_reducible assumption) | (with_reducible exact Below.refl _ _) | (with_reducible refine Below.drew ?_) | (with_reducible refine below_drewN' ?_ _) | (with_reducible refine below_al ?_) | ((with_reducible refine below_set ?_ ?_); rotate_left; focus (first | (simp; done) | (simp; omega))))))).mono ?_; rintro e wq ⟨rfl, hbq⟩; have hBq := below_step (w := w3) hbq (by repeat (first | (with_reducible assumption) | (with_reducible exact Below.refl _ _) | (with_reducible refine Below.drew ?_) | (with_reducible refine below_drewN' ?_ _) | (with_reducible refine below_al ?_) | ((with_reducible refine below_set ?_ ?_); rotate_left; focus (first | (simp; done) | (simp; omega))))); clear hbq
  (try go_wp2_with fail)
  refine hK.out _ _ ?_ (fun hNew => ?_)
  · (refine HS.out _ ?_; repeat (first | (with_reducible assumption) | (with_reducible exact Below.refl _ _) | (with_reducible refine Below.drew ?_) | (with_reducible refine below_drewN' ?_ _) | (with_reducible refine below_al ?_) | ((with_reducible refine below_set ?_ ?_); rotate_left; focus (first | (simp; done) | (simp; omega)))))
  clear hK K hHeld; have hHeld := hNew; clear hNew
  (try simp only [Act.put, List.setIfInBounds_toArray, List.set_cons_zero, List.set_cons_succ])
  refine wpAnyH_take (i := 15) (oi := ?_) (v := ?_) ?_ (by kernel_rfl) (by kernel_rfl) (by kernel_rfl) ?_ (Or.inl ⟨?_, ?_⟩) (by assumption) ?_; rotate_left 2
  · ((try simp only [List.getElem?_toArray, List.getElem?_cons_succ, List.getElem?_cons_zero]); rfl)
  · exact (fun _ _ _ h => h)
  · rfl
  · (intro w hSw; (try dsimp only at hSw); go_simp; (try with_reducible rfl))
  (try simp only [Act.put, List.setIfInBounds_toArray, List.set_cons_zero, List.set_cons_succ])
  refine wpAnyH_take (i := 16) (oi := ?_) (v := ?_) ?_ (by kernel_rfl) (by kernel_rfl) (by kernel_rfl) ?_ (Or.inl ⟨?_, ?_⟩) (by assumption) ?_; rotate_left 2
  · ((try simp only [List.getElem?_toArray, List.getElem?_cons_succ, List.getElem?_cons_zero]); rfl)
  · exact (fun _ _ _ h => h)
  · rfl
  · (intro w hSw; (try dsimp only at hSw); go_simp; (try with_reducible rfl))
  (try simp only [Act.put, List.setIfInBounds_toArray, List.set_cons_zero, List.set_cons_succ])
  refine wpAnyH_take (i := 17) (oi := ?_) (v := ?_) ?_ (by kernel_rfl) (by kernel_rfl) (by kernel_rfl) ?_ (Or.inl ⟨?_, ?_⟩) (by assumption) ?_; rotate_left 2
  · ((try simp only [List.getElem?_toArray, List.getElem?_cons_succ, List.getElem?_cons_zero]); rfl)
  · exact (fun _ _ _ h => h)
  · rfl
  · (intro w hSw; (try dsimp only at hSw); go_simp; (try with_reducible rfl))
  (try simp only [Act.put, List.setIfInBounds_toArray, List.set_cons_zero, List.set_cons_succ])
  refine wpAnyH_take (i := 18) (oi := ?_) (v := ?_) ?_ (by kernel_rfl) (by kernel_rfl) (by kernel_rfl) ?_ (Or.inl ⟨?_, ?_⟩) (by assumption) ?_; rotate_left 2
  · ((try simp only [List.getElem?_toArray, List.getElem?_cons_succ, List.getElem?_cons_zero]); rfl)
  · exact (fun _ _ _ h => h)
  · rfl
  · (intro w hSw; (try dsimp only at hSw); go_simp; (try with_reducible rfl))
  (try simp only [Act.put, List.setIfInBounds_toArray, List.set_cons_zero, List.set_cons_succ])
  refine wpAnyH_take (i := 19) (oi := ?_) (v := ?_) ?_ (by kernel_rfl) (by kernel_rfl) (by kernel_rfl) ?_ (Or.inl ⟨?_, ?_⟩) (by assumption) ?_; rotate_left 2
  · ((try simp only [List.getElem?_toArray, List.getElem?_cons_succ, List.getElem?_cons_zero]); rfl)
  · exact (fun _ _ _ h => h)
  · rfl
  · (intro w hSw; (try dsimp only at hSw); go_simp; (try with_reducible rfl))
  (try simp only [Act.put, List.setIfInBounds_toArray, List.set_cons_zero, List.set_cons_succ])
  refine wpAnyH_take (i := 20) (oi := ?_) (v := ?_) ?_ (by kernel_rfl) (by kernel_rfl) (by kernel_rfl) ?_ (Or.inl ⟨?_, ?_⟩) (by assumption) ?_; rotate_left 2
  · ((try simp only [List.getElem?_toArray, List.getElem?_cons_succ, List.getElem?_cons_zero]); rfl)
  · exact (fun _ _ _ h => h)
  · rfl
  · (intro w hSw; (try dsimp only at hSw); go_simp; (try with_reducible rfl))
  (try simp only [Act.put, List.setIfInBounds_toArray, List.set_cons_zero, List.set_cons_succ])
  refine wpAnyH_take (i := 21) (oi := ?_) (v := ?_) ?_ (by kernel_rfl) (by kernel_rfl) (by kernel_rfl) ?_ (Or.inl ⟨?_, ?_⟩) (by assumption) ?_; rotate_left 2
  · ((try simp only [List.getElem?_toArray, List.getElem?_cons_succ, List.getElem?_cons_zero]); rfl)
  · exact (fun _ _ _ h => h)
  · rfl
  · (intro w hSw; (try dsimp only at hSw); go_simp; (try with_reducible rfl))
  (try simp only [Act.put, List.setIfInBounds_toArray, List.set_cons_zero, List.set_cons_succ])
  refine wpAnyH_take (i := 22) (oi := ?_) (v := undef) ?_ (by kernel_rfl) (by kernel_rfl) (by kernel_rfl) ?_ (Or.inr ⟨?_, rfl⟩) (by assumption) ?_; rotate_left 1
  · ((try simp only [List.getElem?_toArray, List.getElem?_cons_succ, List.getElem?_cons_zero]); rfl)
  · exact (fun _ _ _ h => h)
  · rfl
  (try simp only [Act.put, List.setIfInBounds_toArray, List.set_cons_zero, List.set_cons_succ])
  refine wpAnyH_take (i := 23) (oi := ?_) (v := undef) ?_ (by kernel_rfl) (by kernel_rfl) (by kernel_rfl) ?_ (Or.inr ⟨?_, rfl⟩) (by assumption) ?_; rotate_left 1
  · ((try simp only [List.getElem?_toArray, List.getElem?_cons_succ, List.getElem?_cons_zero]); rfl)
  · exact (fun _ _ _ h => h)
  · rfl
  (try simp only [Act.put, List.setIfInBounds_toArray, List.set_cons_zero, List.set_cons_succ])
  refine wpAnyH_take (i := 25) (oi := ?_) (v := undef) ?_ (by kernel_rfl) (by kernel_rfl) (by kernel_rfl) ?_ (Or.inr ⟨?_, rfl⟩) (by assumption) ?_; rotate_left 1
  · ((try simp only [List.getElem?_toArray, List.getElem?_cons_succ, List.getElem?_cons_zero]); rfl)
  · exact (fun _ _ _ h => h)
  · rfl
  (try simp only [Act.put, List.setIfInBounds_toArray, List.set_cons_zero, List.set_cons_succ])
  refine wpAnyH_take (i := 26) (oi := ?_) (v := undef) ?_ (by kernel_rfl) (by kernel_rfl) (by kernel_rfl) ?_ (Or.inr ⟨?_, rfl⟩) (by assumption) ?_; rotate_left 1
  · ((try simp only [List.getElem?_toArray, List.getElem?_cons_succ, List.getElem?_cons_zero]); rfl)
  · exact (fun _ _ _ h => h)
  · rfl
  (try simp only [Act.put, List.setIfInBounds_toArray, List.set_cons_zero, List.set_cons_succ])
  refine wpAnyH_take (i := 27) (oi := ?_) (v := undef) ?_ (by kernel_rfl) (by kernel_rfl) (by kernel_rfl) ?_ (Or.inr ⟨?_, rfl⟩) (by assumption) ?_; rotate_left 1
  · ((try simp only [List.getElem?_toArray, List.getElem?_cons_succ, List.getElem?_cons_zero]); rfl)
  · exact (fun _ _ _ h => h)
  · rfl
  (try simp only [Act.put, List.setIfInBounds_toArray, List.set_cons_zero, List.set_cons_succ])
  refine wpAnyH_take (i := 28) (oi := ?_) (v := undef) ?_ (by kernel_rfl) (by kernel_rfl) (by kernel_rfl) ?_ (Or.inr ⟨?_, rfl⟩) (by assumption) ?_; rotate_left 1
  · ((try simp only [List.getElem?_toArray, List.getElem?_cons_succ, List.getElem?_cons_zero]); rfl)
  · exact (fun _ _ _ h => h)
  · rfl
  (try simp only [Act.put, List.setIfInBounds_toArray, List.set_cons_zero, List.set_cons_succ])
  refine wpAnyH_take (i := 24) (oi := ?_) (v := undef) ?_ (by kernel_rfl) (by kernel_rfl) (by kernel_rfl) ?_ (Or.inr ⟨?_, rfl⟩) (by assumption) ?_; rotate_left 1
  · ((try simp only [List.getElem?_toArray, List.getElem?_cons_succ, List.getElem?_cons_zero]); rfl)
  · exact (fun _ _ _ h => h)
  · rfl
  (try simp only [Act.put, List.setIfInBounds_toArray, List.set_cons_zero, List.set_cons_succ])
  refine wpAnyH_take (i := 29) (oi := ?_) (v := undef) ?_ (by kernel_rfl) (by kernel_rfl) (by kernel_rfl) ?_ (Or.inr ⟨?_, rfl⟩) (by assumption) ?_; rotate_left 1
  · ((try simp only [List.getElem?_toArray, List.getElem?_cons_succ, List.getElem?_cons_zero]); rfl)
  · exact (fun _ _ _ h => h)
  · rfl
  (try simp only [Act.put, List.setIfInBounds_toArray, List.set_cons_zero, List.set_cons_succ])
  refine wpAnyH_take (i := 30) (oi := ?_) (v := ?_) ?_ (by kernel_rfl) (by kernel_rfl) (by kernel_rfl) ?_ (Or.inl ⟨?_, ?_⟩) (by assumption) ?_; rotate_left 2
  · ((try simp only [List.getElem?_toArray, List.getElem?_cons_succ, List.getElem?_cons_zero]); rfl)
  · exact (fun _ _ _ h => h)
  · rfl
  · (intro w hSw; (try dsimp only at hSw); go_simp; (try with_reducible rfl))
  (try simp only [Act.put, List.setIfInBounds_toArray, List.set_cons_zero, List.set_cons_succ])
  refine wpAnyH_take (i := 31) (oi := ?_) (v := ?_) ?_ (by kernel_rfl) (by kernel_rfl) (by kernel_rfl) ?_ (Or.inl ⟨?_, ?_⟩) (by assumption) ?_; rotate_left 2
  · ((try simp only [List.getElem?_toArray, List.getElem?_cons_succ, List.getElem?_cons_zero]); rfl)
  · exact (fun _ _ _ h => h)
  · rfl
  · (intro w hSw; (try dsimp only at hSw); go_simp; (try with_reducible rfl))
  (try simp only [Act.put, List.setIfInBounds_toArray, List.set_cons_zero, List.set_cons_succ])
  refine wpAnyH_take (i := 32) (oi := ?_) (v := ?_) ?_ (by kernel_rfl) (by kernel_rfl) (by kernel_rfl) ?_ (Or.inl ⟨?_, ?_⟩) (by assumption) ?_; rotate_left 2
  · ((try simp only [List.getElem?_toArray, List.getElem?_cons_succ, List.getElem?_cons_zero]); rfl)
  · exact (fun _ _ _ h => h)
  · rfl
  · (intro w hSw; (try dsimp only at hSw); go_simp; (try with_reducible rfl))
  (try simp only [Act.put, List.setIfInBounds_toArray, List.set_cons_zero, List.set_cons_succ])
  refine wpAnyH_take (i := 33) (oi := ?_) (v := ?_) ?_ (by kernel_rfl) (by kernel_rfl) (by kernel_rfl) ?_ (Or.inl ⟨?_, ?_⟩) (by assumption) ?_; rotate_left 2
  · ((try simp only [List.getElem?_toArray, List.getElem?_cons_succ, List.getElem?_cons_zero]); rfl)
  · exact (fun _ _ _ h => h)
  · rfl
  · (intro w hSw; (try dsimp only at hSw); go_simp; (try with_reducible rfl))
  (try simp only [Act.put, List.setIfInBounds_toArray, List.set_cons_zero, List.set_cons_succ])
  refine wpAnyH_ready (rs := [34]) (by kernel_rfl) (by simp) ?_
  refine AllReadyH.cons (o := ?_) ?_ (fun K hK => ?_) AllReadyH.nil; rotate_left 1
  · ((try simp only [List.getElem?_toArray, List.getElem?_cons_succ, List.getElem?_cons_zero]); rfl)
  go_simp
  refine (isA_c _ _ _ _ _ _ _ 0 _ e0 _ (hL3.out.below (by repeat (first | (with_reducible assumption) | (with_reducible exact Below.refl _ _) | (with_reducible refine Below.drew ?_) | (with_reducible refine below_drewN' ?_ _) | (with_reducible refine below_al ?_) | ((with_reducible refine below_set ?_ ?_); rotate_left; focus (first | (simp; done) | (simp; omega))))))).mono ?_; rintro e wq ⟨rfl, hbq⟩; have hBq := below_step (w := w3) hbq (by repeat (first | (with_reducible assumption) | (with_reducible exact Below.refl _ _) | (with_reducible refine Below.drew ?_) | (with_reducible refine below_drewN' ?_ _) | (with_reducible refine below_al ?_) | ((with_reducible refine below_set ?_ ?_); rotate_left; focus (first | (simp; done) | (simp; omega))))); clear hbq
  (try go_wp2_with fail)
  refine hK.out _ _ ?_ (fun hNew => ?_)
  · (refine HS.out _ ?_; repeat (first | (with_reducible assumption) | (with_reducible exact Below.refl _ _) | (with_reducible refine Below.drew ?_) | (with_reducible refine below_drewN' ?_ _) | (with_reducible refine below_al ?_) | ((with_reducible refine below_set ?_ ?_); rotate_left; focus (first | (simp; done) | (simp; omega)))))
  clear hK K hHeld; have hHeld := hNew; clear hNew
  (try simp only [Act.put, List.setIfInBounds_toArray, List.set_cons_zero, List.set_cons_succ])
  refine wpAnyH_take (i := 35) (oi := ?_) (v := ?_) ?_ (by kernel_rfl) (by kernel_rfl) (by kernel_rfl) ?_ (Or.inl ⟨?_, ?_⟩) (by assumption) ?_; rotate_left 2
  · ((try simp only [List.getElem?_toArray, List.getElem?_cons_succ, List.getElem?_cons_zero]); rfl)
  · exact (fun _ _ _ h => h)
  · rfl
  · (intro w hSw; (try dsimp only at hSw); go_simp; (try with_reducible rfl))
  (try simp only [Act.put, List.setIfInBounds_toArray, List.set_cons_zero, List.set_cons_succ])
  refine wpAnyH_take (i := 36) (oi := ?_) (v := ?_) ?_ (by kernel_rfl) (by kernel_rfl) (by kernel_rfl) ?_ (Or.inl ⟨?_, ?_⟩) (by assumption) ?_; rotate_left 2
  · ((try simp only [List.getElem?_toArray, List.getElem?_cons_succ, List.getElem?_cons_zero]); rfl)
  · exact (fun _ _ _ h => h)
  · rfl
  · (intro w hSw; (try dsimp only at hSw); go_simp; (try with_reducible rfl))
  (try simp only [Act.put, List.setIfInBounds_toArray, List.set_cons_zero, List.set_cons_succ])
  refine wpAnyH_take (i := 37) (oi := ?_) (v := ?_) ?_ (by kernel_rfl) (by kernel_rfl) (by kernel_rfl) ?_ (Or.inl ⟨?_, ?_⟩) (by assumption) ?_; rotate_left 2
  · ((try simp only [List.getElem?_toArray, List.getElem?_cons_succ, List.getElem?_cons_zero]); rfl)
  · exact (fun _ _ _ h => h)
  · rfl
  · (intro w hSw; (try dsimp only at hSw); go_simp; (try with_reducible rfl))
  (try simp only [Act.put, List.setIfInBounds_toArray, List.set_cons_zero, List.set_cons_succ])
  refine wpAnyH_take (i := 38) (oi := ?_) (v := ?_) ?_ (by kernel_rfl) (by kernel_rfl) (by kernel_rfl) ?_ (Or.inl ⟨?_, ?_⟩) (by assumption) ?_; rotate_left 2
  · ((try simp only [List.getElem?_toArray, List.getElem?_cons_succ, List.getElem?_cons_zero]); rfl)
  · exact (fun _ _ _ h => h)
  · rfl
  · (intro w hSw; (try dsimp only at hSw); go_simp; (try with_reducible rfl))
  (try simp only [Act.put, List.setIfInBounds_toArray, List.set_cons_zero, List.set_cons_succ])
  refine wpAnyH_ready (rs := [39]) (by kernel_rfl) (by simp) ?_
  refine AllReadyH.cons (o := ?_) ?_ (fun K hK => ?_) AllReadyH.nil; rotate_left 1
  · ((try simp only [List.getElem?_toArray, List.getElem?_cons_succ, List.getElem?_cons_zero]); rfl)
  go_simp
  refine (isA_c _ _ _ _ _ _ _ 3652060 _ e1 _ (hL3.out.below (by repeat (first | (with_reducible assumption) | (with_reducible exact Below.refl _ _) | (with_reducible refine Below.drew ?_) | (with_reducible refine below_drewN' ?_ _) | (with_reducible refine below_al ?_) | ((with_reducible refine below_set ?_ ?_); rotate_left; focus (first | (simp; done) | (simp; omega))))))).mono ?_; rintro e wq ⟨rfl, hbq⟩; have hBq := below_step (w := w3) hbq (by repeat (first | (with_reducible assumption) | (with_reducible exact Below.refl _ _) | (with_reducible refine Below.drew ?_) | (with_reducible refine below_drewN' ?_ _) | (with_reducible refine below_al ?_) | ((with_reducible refine below_set ?_ ?_); rotate_left; focus (first | (simp; done) | (simp; omega))))); clear hbq
  (try go_wp2_with fail)
  refine hK.out _ _ ?_ (fun hNew => ?_)
  · (refine HS.out _ ?_; repeat (first | (with_reducible assumption) | (with_reducible exact Below.refl _ _) | (with_reducible refine Below.drew ?_) | (with_reducible refine below_drewN' ?_ _) | (with_reducible refine below_al ?_) | ((with_reducible refine below_set ?_ ?_); rotate_left; focus (first | (simp; done) | (simp; omega)))))
  clear hK K hHeld; have hHeld := hNew; clear hNew
  (try simp only [Act.put, List.setIfInBounds_toArray, List.set_cons_zero, List.set_cons_succ])
  refine wpAnyH_take (i := 40) (oi := ?_) (v := ?_) ?_ (by kernel_rfl) (by kernel_rfl) (by kernel_rfl) ?_ (Or.inl ⟨?_, ?_⟩) (by assumption) ?_; rotate_left 2
  · ((try simp only [List.getElem?_toArray, List.getElem?_cons_succ, List.getElem?_cons_zero]); rfl)
  · exact (fun _ _ _ h => h)
  · rfl
  · (intro w hSw; (try dsimp only at hSw); go_simp; (try with_reducible rfl))
  (try simp only [Act.put, List.setIfInBounds_toArray, List.set_cons_zero, List.set_cons_succ])
  refine wpAnyH_take (i := 41) (oi := ?_) (v := ?_) ?_ (by kernel_rfl) (by kernel_rfl) (by kernel_rfl) ?_ (Or.inl ⟨?_, ?_⟩) (by assumption) ?_; rotate_left 2
  · ((try simp only [List.getElem?_toArray, List.getElem?_cons_succ, List.getElem?_cons_zero]); rfl)
  · exact (fun _ _ _ h => h)
  · rfl
  · (intro w hSw; (try dsimp only at hSw); go_simp; (try with_reducible rfl))
  (try simp only [Act.put, List.setIfInBounds_toArray, List.set_cons_zero, List.set_cons_succ])
  refine wpAnyH_take (i := 42) (oi := ?_) (v := ?_) ?_ (by kernel_rfl) (by kernel_rfl) (by kernel_rfl) ?_ (Or.inl ⟨?_, ?_⟩) (by assumption) ?_; rotate_left 2
  · ((try simp only [List.getElem?_toArray, List.getElem?_cons_succ, List.getElem?_cons_zero]); rfl)
  · exact (fun _ _ _ h => h)
  · rfl
  · (intro w hSw; (try dsimp only at hSw); go_simp; (try with_reducible rfl))
  (try simp only [Act.put, List.setIfInBounds_toArray, List.set_cons_zero, List.set_cons_succ])
  refine wpAnyH_done (by kernel_rfl) ?_ _
  all_goals ((try go_simp); (repeat (first | ((with_reducible refine wp_region_app ?_); simp only [List.cons_append, List.nil_append]) | go_values | go_skip | go_guarded | go_step | go_upon)); go_ret; exact ⟨rfl, hB3.trans ((by repeat (first | (with_reducible assumption) | (with_reducible exact Below.refl _ _) | (with_reducible refine Below.drew ?_) | (with_reducible refine below_drewN' ?_ _) | (with_reducible refine below_al ?_) | ((with_reducible refine below_set ?_ ?_); rotate_left; focus (first | (simp; done) | (simp; omega)))) : Below w3.heap.size w3 _).mono hB3.size)⟩)
theorem calWeeks_walk (o0 o1 o2 o3 o4 o5 o6 : Bool) (n m : Int) (w : World) (hL : Laid w) (hN : AllOff w) : Calls Tryd.prog 13 #[.agg #[.bool o0, .bool o1, .bool o2, .bool o3, .bool o4, .bool o5, .bool o6], .int .i64 n, .int .i64 m] w fun e w' => e = .returned (.bool true) ∧ Below w.heap.size w w' := by
  cases dn : dayB n
  · exact calWeeks_dn o0 o1 o2 o3 o4 o5 o6 n m dn w hL hN
  cases dm : dayB m
  · exact calWeeks_dm o0 o1 o2 o3 o4 o5 o6 n m dn dm w hL hN
  cases hm : (wkA o0 o1 o2 o3 o4 o5 o6).may
  · exact calWeeks_may o0 o1 o2 o3 o4 o5 o6 n m dn dm hm w hL hN
  have hb := Cal.wd_bd n
  have hk : Hid (Cal.wd n = ((Cal.wd n).toNat : Int)) := Lib.hid (by omega)
  cases hv : (wkA o0 o1 o2 o3 o4 o5 o6).off ((Cal.wd n).toNat : Int) <;> cases hnm : n == m
  · exact calWeeks_fd o0 o1 o2 o3 o4 o5 o6 n m dn dm hm _ (by omega) hk hv hnm w hL hN
  · exact calWeeks_fe o0 o1 o2 o3 o4 o5 o6 n m dn dm hm _ (by omega) hk hv hnm w hL hN
  · exact calWeeks_td o0 o1 o2 o3 o4 o5 o6 n m dn dm hm _ (by omega) hk hv hnm w hL hN
  · exact calWeeks_te o0 o1 o2 o3 o4 o5 o6 n m dn dm hm _ (by omega) hk hv hnm w hL hN
end Go.Proofs.YtlilffoflkkbdaaDoor
