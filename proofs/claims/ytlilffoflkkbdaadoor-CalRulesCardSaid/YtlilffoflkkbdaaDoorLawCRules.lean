/- The walk of CalRules: the law returns true for every input. Conditions: the tables of months' lengths and of the week all of whose days are off lie as the program's text lays them. -/
import Derived.Test.YtlilffoflkkbdaaDoorCal0
import Derived.Test.YtlilffoflkkbdaaDoorCalO
namespace Go.Proofs.YtlilffoflkkbdaaDoor
open Go.RowKit
set_option linter.unusedVariables false
set_option linter.unusedSimpArgs false
theorem rmayR_c (r : R8) (w : World) : Calls Tryd.prog 42 #[.agg #[.int .i64 r.kd, .int .i64 r.mo, .int .i64 r.da, .int .i64 r.kk, .int .i64 r.off, .int .i64 r.sh, .int .i64 r.fr, .int .i64 r.to]] w fun e w' => e = .returned (.bool r.may) ∧ Below w.heap.size w w' := rruleMay_c _ _ _ _ _ _ _ _ w
theorem risR_c (r : R8) (hr : r.may = true) (n : Int) (w : World) : Calls Tryd.prog 43 #[.agg #[.int .i64 r.kd, .int .i64 r.mo, .int .i64 r.da, .int .i64 r.kk, .int .i64 r.off, .int .i64 r.sh, .int .i64 r.fr, .int .i64 r.to], .int .i64 n] w fun e w' => e = .returned (.bool (r.is n)) ∧ Below w.heap.size w w' := rruleIs_c _ _ _ _ _ _ _ _ _ (R8.mayP hr) w
theorem isV_c (c : CalP) (n : Int) (v : Bool) (hv : Hid (c.is n = v)) (hk : CalOk c) (w : World) (hL : Laid w) (hc : CalIn w c) : Calls Tryd.prog 36 #[.agg #[.bool c.o0, .bool c.o1, .bool c.o2, .bool c.o3, .bool c.o4, .bool c.o5, .bool c.o6, .slice c.A c.rs.length c.cR, .slice c.D c.ds.length c.cD], .int .i64 n] w fun e w' => e = .returned (.bool v) ∧ Below w.heap.size w w' := by
  rw [← hv.out]; exact calIs_c c n hk w hL hc
theorem rmayV_c (c : CalP) (v : Bool) (hv : Hid (c.may = v)) (w : World) (hc : CalIn w c) : Calls Tryd.prog 19 #[.agg #[.bool c.o0, .bool c.o1, .bool c.o2, .bool c.o3, .bool c.o4, .bool c.o5, .bool c.o6, .slice c.A c.rs.length c.cR, .slice c.D c.ds.length c.cD]] w fun e w' => e = .returned (.bool v) ∧ Below w.heap.size w w' := by
  rw [← hv.out]; exact rcalMay_c c w hc
theorem risV_c (r : R8) (hr : r.may = true) (n : Int) (v : Bool) (hv : Hid (r.is n = v)) (w : World) : Calls Tryd.prog 43 #[.agg #[.int .i64 r.kd, .int .i64 r.mo, .int .i64 r.da, .int .i64 r.kk, .int .i64 r.off, .int .i64 r.sh, .int .i64 r.fr, .int .i64 r.to], .int .i64 n] w fun e w' => e = .returned (.bool v) ∧ Below w.heap.size w w' := by
  rw [← hv.out]; exact risR_c r hr n w
theorem set_off (c : CalP) (k : Nat) (hk : k < 7) (x y : Value) : (#[.bool c.o0, .bool c.o1, .bool c.o2, .bool c.o3, .bool c.o4, .bool c.o5, .bool c.o6, x, y] : Array Value).setIfInBounds k (.bool true) = #[.bool (k == 0 || c.o0), .bool (k == 1 || c.o1), .bool (k == 2 || c.o2), .bool (k == 3 || c.o3), .bool (k == 4 || c.o4), .bool (k == 5 || c.o5), .bool (k == 6 || c.o6), x, y] := by
  have h : k = 0 ∨ k = 1 ∨ k = 2 ∨ k = 3 ∨ k = 4 ∨ k = 5 ∨ k = 6 := by omega
  rcases h with rfl | rfl | rfl | rfl | rfl | rfl | rfl <;> rfl
set_option maxRecDepth 100000 in
set_option maxHeartbeats 8000000 in
theorem calRules_few (c : CalP) (r : R8) (wk n : Int) (hf : c.few = false) (w : World) (hL : Laid w) (hN : AllOff w) (hc : CalIn w c) : Calls Tryd.prog 14 #[.agg #[.bool c.o0, .bool c.o1, .bool c.o2, .bool c.o3, .bool c.o4, .bool c.o5, .bool c.o6, .slice c.A c.rs.length c.cR, .slice c.D c.ds.length c.cD, .int .i64 r.kd, .int .i64 r.mo, .int .i64 r.da, .int .i64 r.kk, .int .i64 r.off, .int .i64 r.sh, .int .i64 r.fr, .int .i64 r.to, .int .u8 wk, .int .i64 n]] w fun e w' => e = .returned (.bool true) ∧ Below w.heap.size w w' := by
  have hB : Below w.heap.size w w := Below.refl _ _
  go_enter Tryd.func14, Tryd.ntmps14
  (try go_simp); (repeat (first | ((with_reducible refine wp_region_app ?_); simp only [List.cons_append, List.nil_append]) | go_values | go_skip | go_guarded | go_step | go_upon))
  refine (shown13_c _ (hL.below (by repeat (first | assumption | exact Below.refl _ _ | (with_reducible refine Below.drew ?_) | (with_reducible refine below_drewN' ?_ _) | (with_reducible refine below_al ?_) | ((with_reducible refine below_set ?_ ?_); rotate_left; focus (first | (simp; done) | (simp; omega)))))) (hN.below (by repeat (first | assumption | exact Below.refl _ _ | (with_reducible refine Below.drew ?_) | (with_reducible refine below_drewN' ?_ _) | (with_reducible refine below_al ?_) | ((with_reducible refine below_set ?_ ?_); rotate_left; focus (first | (simp; done) | (simp; omega))))))).mono ?_; rintro e w1 ⟨rfl, hb1⟩
  have hz1 := hb1.size; (try simp at hz1); obtain ⟨hc1, hf1⟩ := bcell hb1; have hB1 := below_step (w := w) hb1 (by repeat (first | assumption | exact Below.refl _ _ | (with_reducible refine Below.drew ?_) | (with_reducible refine below_drewN' ?_ _) | (with_reducible refine below_al ?_) | ((with_reducible refine below_set ?_ ?_); rotate_left; focus (first | (simp; done) | (simp; omega)))))
  have le_w_w1 : w.heap.size ≤ w1.heap.size := by omega
  try have lt_w_w1 : w.heap.size < w1.heap.size := by omega
  have le1_w_w1 : w.heap.size + 1 ≤ w1.heap.size := by omega
  try have lt1_w_w1 : w.heap.size + 1 < w1.heap.size := by omega
  have le2_w_w1 : w.heap.size + 2 ≤ w1.heap.size := by omega
  try have lt2_w_w1 : w.heap.size + 2 < w1.heap.size := by omega
  (try go_simp); (repeat (first | ((with_reducible refine wp_region_app ?_); simp only [List.cons_append, List.nil_append]) | go_values | go_skip | go_guarded | go_step | go_upon))
  refine (few_c c _).mono ?_; rintro e w2 ⟨rfl, hb2⟩
  have hz2 := hb2.size; (try simp at hz2); obtain ⟨hc2, hf2⟩ := bcell hb2; have hB2 := below_step (w := w) hb2 (by repeat (first | assumption | exact Below.refl _ _ | (with_reducible refine Below.drew ?_) | (with_reducible refine below_drewN' ?_ _) | (with_reducible refine below_al ?_) | ((with_reducible refine below_set ?_ ?_); rotate_left; focus (first | (simp; done) | (simp; omega)))))
  have le_w_w2 : w.heap.size ≤ w2.heap.size := by omega
  try have lt_w_w2 : w.heap.size < w2.heap.size := by omega
  have le1_w_w2 : w.heap.size + 1 ≤ w2.heap.size := by omega
  try have lt1_w_w2 : w.heap.size + 1 < w2.heap.size := by omega
  have le2_w_w2 : w.heap.size + 2 ≤ w2.heap.size := by omega
  try have lt2_w_w2 : w.heap.size + 2 < w2.heap.size := by omega
  have le_w1_w2 : w1.heap.size ≤ w2.heap.size := by omega
  try have lt_w1_w2 : w1.heap.size < w2.heap.size := by omega
  (try go_simp); (repeat (first | ((with_reducible refine wp_region_app ?_); simp only [List.cons_append, List.nil_append]) | go_values | go_skip | go_guarded | go_step | go_upon))
  go_ret
  exact ⟨rfl, by repeat (first | assumption | exact Below.refl _ _ | (with_reducible refine Below.drew ?_) | (with_reducible refine below_drewN' ?_ _) | (with_reducible refine below_al ?_) | ((with_reducible refine below_set ?_ ?_); rotate_left; focus (first | (simp; done) | (simp; omega))))⟩
set_option maxRecDepth 100000 in
set_option maxHeartbeats 8000000 in
theorem calRules_may (c : CalP) (r : R8) (wk n : Int) (hf : c.few = true) (hm : c.may = false) (w : World) (hL : Laid w) (hN : AllOff w) (hc : CalIn w c) : Calls Tryd.prog 14 #[.agg #[.bool c.o0, .bool c.o1, .bool c.o2, .bool c.o3, .bool c.o4, .bool c.o5, .bool c.o6, .slice c.A c.rs.length c.cR, .slice c.D c.ds.length c.cD, .int .i64 r.kd, .int .i64 r.mo, .int .i64 r.da, .int .i64 r.kk, .int .i64 r.off, .int .i64 r.sh, .int .i64 r.fr, .int .i64 r.to, .int .u8 wk, .int .i64 n]] w fun e w' => e = .returned (.bool true) ∧ Below w.heap.size w w' := by
  have hB : Below w.heap.size w w := Below.refl _ _
  go_enter Tryd.func14, Tryd.ntmps14
  (try go_simp); (repeat (first | ((with_reducible refine wp_region_app ?_); simp only [List.cons_append, List.nil_append]) | go_values | go_skip | go_guarded | go_step | go_upon))
  refine (shown13_c _ (hL.below (by repeat (first | assumption | exact Below.refl _ _ | (with_reducible refine Below.drew ?_) | (with_reducible refine below_drewN' ?_ _) | (with_reducible refine below_al ?_) | ((with_reducible refine below_set ?_ ?_); rotate_left; focus (first | (simp; done) | (simp; omega)))))) (hN.below (by repeat (first | assumption | exact Below.refl _ _ | (with_reducible refine Below.drew ?_) | (with_reducible refine below_drewN' ?_ _) | (with_reducible refine below_al ?_) | ((with_reducible refine below_set ?_ ?_); rotate_left; focus (first | (simp; done) | (simp; omega))))))).mono ?_; rintro e w1 ⟨rfl, hb1⟩
  have hz1 := hb1.size; (try simp at hz1); obtain ⟨hc1, hf1⟩ := bcell hb1; have hB1 := below_step (w := w) hb1 (by repeat (first | assumption | exact Below.refl _ _ | (with_reducible refine Below.drew ?_) | (with_reducible refine below_drewN' ?_ _) | (with_reducible refine below_al ?_) | ((with_reducible refine below_set ?_ ?_); rotate_left; focus (first | (simp; done) | (simp; omega)))))
  have le_w_w1 : w.heap.size ≤ w1.heap.size := by omega
  try have lt_w_w1 : w.heap.size < w1.heap.size := by omega
  have le1_w_w1 : w.heap.size + 1 ≤ w1.heap.size := by omega
  try have lt1_w_w1 : w.heap.size + 1 < w1.heap.size := by omega
  have le2_w_w1 : w.heap.size + 2 ≤ w1.heap.size := by omega
  try have lt2_w_w1 : w.heap.size + 2 < w1.heap.size := by omega
  (try go_simp); (repeat (first | ((with_reducible refine wp_region_app ?_); simp only [List.cons_append, List.nil_append]) | go_values | go_skip | go_guarded | go_step | go_upon))
  refine (few_c c _).mono ?_; rintro e w2 ⟨rfl, hb2⟩
  have hz2 := hb2.size; (try simp at hz2); obtain ⟨hc2, hf2⟩ := bcell hb2; have hB2 := below_step (w := w) hb2 (by repeat (first | assumption | exact Below.refl _ _ | (with_reducible refine Below.drew ?_) | (with_reducible refine below_drewN' ?_ _) | (with_reducible refine below_al ?_) | ((with_reducible refine below_set ?_ ?_); rotate_left; focus (first | (simp; done) | (simp; omega)))))
  have le_w_w2 : w.heap.size ≤ w2.heap.size := by omega
  try have lt_w_w2 : w.heap.size < w2.heap.size := by omega
  have le1_w_w2 : w.heap.size + 1 ≤ w2.heap.size := by omega
  try have lt1_w_w2 : w.heap.size + 1 < w2.heap.size := by omega
  have le2_w_w2 : w.heap.size + 2 ≤ w2.heap.size := by omega
  try have lt2_w_w2 : w.heap.size + 2 < w2.heap.size := by omega
  have le_w1_w2 : w1.heap.size ≤ w2.heap.size := by omega
  try have lt_w1_w2 : w1.heap.size < w2.heap.size := by omega
  (try go_simp); (repeat (first | ((with_reducible refine wp_region_app ?_); simp only [List.cons_append, List.nil_append]) | go_values | go_skip | go_guarded | go_step | go_upon))
  refine (rcalMay_c c _ (hc.below (by repeat (first | assumption | exact Below.refl _ _ | (with_reducible refine Below.drew ?_) | (with_reducible refine below_drewN' ?_ _) | (with_reducible refine below_al ?_) | ((with_reducible refine below_set ?_ ?_); rotate_left; focus (first | (simp; done) | (simp; omega))))))).mono ?_; rintro e w3 ⟨rfl, hb3⟩
  have hz3 := hb3.size; (try simp at hz3); obtain ⟨hc3, hf3⟩ := bcell hb3; have hB3 := below_step (w := w) hb3 (by repeat (first | assumption | exact Below.refl _ _ | (with_reducible refine Below.drew ?_) | (with_reducible refine below_drewN' ?_ _) | (with_reducible refine below_al ?_) | ((with_reducible refine below_set ?_ ?_); rotate_left; focus (first | (simp; done) | (simp; omega)))))
  have le_w_w3 : w.heap.size ≤ w3.heap.size := by omega
  try have lt_w_w3 : w.heap.size < w3.heap.size := by omega
  have le1_w_w3 : w.heap.size + 1 ≤ w3.heap.size := by omega
  try have lt1_w_w3 : w.heap.size + 1 < w3.heap.size := by omega
  have le2_w_w3 : w.heap.size + 2 ≤ w3.heap.size := by omega
  try have lt2_w_w3 : w.heap.size + 2 < w3.heap.size := by omega
  have le_w1_w3 : w1.heap.size ≤ w3.heap.size := by omega
  try have lt_w1_w3 : w1.heap.size < w3.heap.size := by omega
  have le_w2_w3 : w2.heap.size ≤ w3.heap.size := by omega
  try have lt_w2_w3 : w2.heap.size < w3.heap.size := by omega
  (try go_simp); (repeat (first | ((with_reducible refine wp_region_app ?_); simp only [List.cons_append, List.nil_append]) | go_values | go_skip | go_guarded | go_step | go_upon))
  go_ret
  exact ⟨rfl, by repeat (first | assumption | exact Below.refl _ _ | (with_reducible refine Below.drew ?_) | (with_reducible refine below_drewN' ?_ _) | (with_reducible refine below_al ?_) | ((with_reducible refine below_set ?_ ?_); rotate_left; focus (first | (simp; done) | (simp; omega))))⟩
set_option maxRecDepth 100000 in
set_option maxHeartbeats 8000000 in
theorem calRules_rule (c : CalP) (r : R8) (wk n : Int) (hf : c.few = true) (hm : c.may = true) (hr : r.may = false) (w : World) (hL : Laid w) (hN : AllOff w) (hc : CalIn w c) : Calls Tryd.prog 14 #[.agg #[.bool c.o0, .bool c.o1, .bool c.o2, .bool c.o3, .bool c.o4, .bool c.o5, .bool c.o6, .slice c.A c.rs.length c.cR, .slice c.D c.ds.length c.cD, .int .i64 r.kd, .int .i64 r.mo, .int .i64 r.da, .int .i64 r.kk, .int .i64 r.off, .int .i64 r.sh, .int .i64 r.fr, .int .i64 r.to, .int .u8 wk, .int .i64 n]] w fun e w' => e = .returned (.bool true) ∧ Below w.heap.size w w' := by
  have hB : Below w.heap.size w w := Below.refl _ _
  go_enter Tryd.func14, Tryd.ntmps14
  (try go_simp); (repeat (first | ((with_reducible refine wp_region_app ?_); simp only [List.cons_append, List.nil_append]) | go_values | go_skip | go_guarded | go_step | go_upon))
  refine (shown13_c _ (hL.below (by repeat (first | assumption | exact Below.refl _ _ | (with_reducible refine Below.drew ?_) | (with_reducible refine below_drewN' ?_ _) | (with_reducible refine below_al ?_) | ((with_reducible refine below_set ?_ ?_); rotate_left; focus (first | (simp; done) | (simp; omega)))))) (hN.below (by repeat (first | assumption | exact Below.refl _ _ | (with_reducible refine Below.drew ?_) | (with_reducible refine below_drewN' ?_ _) | (with_reducible refine below_al ?_) | ((with_reducible refine below_set ?_ ?_); rotate_left; focus (first | (simp; done) | (simp; omega))))))).mono ?_; rintro e w1 ⟨rfl, hb1⟩
  have hz1 := hb1.size; (try simp at hz1); obtain ⟨hc1, hf1⟩ := bcell hb1; have hB1 := below_step (w := w) hb1 (by repeat (first | assumption | exact Below.refl _ _ | (with_reducible refine Below.drew ?_) | (with_reducible refine below_drewN' ?_ _) | (with_reducible refine below_al ?_) | ((with_reducible refine below_set ?_ ?_); rotate_left; focus (first | (simp; done) | (simp; omega)))))
  have le_w_w1 : w.heap.size ≤ w1.heap.size := by omega
  try have lt_w_w1 : w.heap.size < w1.heap.size := by omega
  have le1_w_w1 : w.heap.size + 1 ≤ w1.heap.size := by omega
  try have lt1_w_w1 : w.heap.size + 1 < w1.heap.size := by omega
  have le2_w_w1 : w.heap.size + 2 ≤ w1.heap.size := by omega
  try have lt2_w_w1 : w.heap.size + 2 < w1.heap.size := by omega
  (try go_simp); (repeat (first | ((with_reducible refine wp_region_app ?_); simp only [List.cons_append, List.nil_append]) | go_values | go_skip | go_guarded | go_step | go_upon))
  refine (few_c c _).mono ?_; rintro e w2 ⟨rfl, hb2⟩
  have hz2 := hb2.size; (try simp at hz2); obtain ⟨hc2, hf2⟩ := bcell hb2; have hB2 := below_step (w := w) hb2 (by repeat (first | assumption | exact Below.refl _ _ | (with_reducible refine Below.drew ?_) | (with_reducible refine below_drewN' ?_ _) | (with_reducible refine below_al ?_) | ((with_reducible refine below_set ?_ ?_); rotate_left; focus (first | (simp; done) | (simp; omega)))))
  have le_w_w2 : w.heap.size ≤ w2.heap.size := by omega
  try have lt_w_w2 : w.heap.size < w2.heap.size := by omega
  have le1_w_w2 : w.heap.size + 1 ≤ w2.heap.size := by omega
  try have lt1_w_w2 : w.heap.size + 1 < w2.heap.size := by omega
  have le2_w_w2 : w.heap.size + 2 ≤ w2.heap.size := by omega
  try have lt2_w_w2 : w.heap.size + 2 < w2.heap.size := by omega
  have le_w1_w2 : w1.heap.size ≤ w2.heap.size := by omega
  try have lt_w1_w2 : w1.heap.size < w2.heap.size := by omega
  (try go_simp); (repeat (first | ((with_reducible refine wp_region_app ?_); simp only [List.cons_append, List.nil_append]) | go_values | go_skip | go_guarded | go_step | go_upon))
  refine (rcalMay_c c _ (hc.below (by repeat (first | assumption | exact Below.refl _ _ | (with_reducible refine Below.drew ?_) | (with_reducible refine below_drewN' ?_ _) | (with_reducible refine below_al ?_) | ((with_reducible refine below_set ?_ ?_); rotate_left; focus (first | (simp; done) | (simp; omega))))))).mono ?_; rintro e w3 ⟨rfl, hb3⟩
  have hz3 := hb3.size; (try simp at hz3); obtain ⟨hc3, hf3⟩ := bcell hb3; have hB3 := below_step (w := w) hb3 (by repeat (first | assumption | exact Below.refl _ _ | (with_reducible refine Below.drew ?_) | (with_reducible refine below_drewN' ?_ _) | (with_reducible refine below_al ?_) | ((with_reducible refine below_set ?_ ?_); rotate_left; focus (first | (simp; done) | (simp; omega)))))
  have le_w_w3 : w.heap.size ≤ w3.heap.size := by omega
  try have lt_w_w3 : w.heap.size < w3.heap.size := by omega
  have le1_w_w3 : w.heap.size + 1 ≤ w3.heap.size := by omega
  try have lt1_w_w3 : w.heap.size + 1 < w3.heap.size := by omega
  have le2_w_w3 : w.heap.size + 2 ≤ w3.heap.size := by omega
  try have lt2_w_w3 : w.heap.size + 2 < w3.heap.size := by omega
  have le_w1_w3 : w1.heap.size ≤ w3.heap.size := by omega
  try have lt_w1_w3 : w1.heap.size < w3.heap.size := by omega
  have le_w2_w3 : w2.heap.size ≤ w3.heap.size := by omega
  try have lt_w2_w3 : w2.heap.size < w3.heap.size := by omega
  (try go_simp); (repeat (first | ((with_reducible refine wp_region_app ?_); simp only [List.cons_append, List.nil_append]) | go_values | go_skip | go_guarded | go_step | go_upon))
  refine (rmayR_c r _).mono ?_; rintro e w4 ⟨rfl, hb4⟩
  have hz4 := hb4.size; (try simp at hz4); obtain ⟨hc4, hf4⟩ := bcell hb4; have hB4 := below_step (w := w) hb4 (by repeat (first | assumption | exact Below.refl _ _ | (with_reducible refine Below.drew ?_) | (with_reducible refine below_drewN' ?_ _) | (with_reducible refine below_al ?_) | ((with_reducible refine below_set ?_ ?_); rotate_left; focus (first | (simp; done) | (simp; omega)))))
  have le_w_w4 : w.heap.size ≤ w4.heap.size := by omega
  try have lt_w_w4 : w.heap.size < w4.heap.size := by omega
  have le1_w_w4 : w.heap.size + 1 ≤ w4.heap.size := by omega
  try have lt1_w_w4 : w.heap.size + 1 < w4.heap.size := by omega
  have le2_w_w4 : w.heap.size + 2 ≤ w4.heap.size := by omega
  try have lt2_w_w4 : w.heap.size + 2 < w4.heap.size := by omega
  have le_w1_w4 : w1.heap.size ≤ w4.heap.size := by omega
  try have lt_w1_w4 : w1.heap.size < w4.heap.size := by omega
  have le_w2_w4 : w2.heap.size ≤ w4.heap.size := by omega
  try have lt_w2_w4 : w2.heap.size < w4.heap.size := by omega
  have le_w3_w4 : w3.heap.size ≤ w4.heap.size := by omega
  try have lt_w3_w4 : w3.heap.size < w4.heap.size := by omega
  (try go_simp); (repeat (first | ((with_reducible refine wp_region_app ?_); simp only [List.cons_append, List.nil_append]) | go_values | go_skip | go_guarded | go_step | go_upon))
  go_ret
  exact ⟨rfl, by repeat (first | assumption | exact Below.refl _ _ | (with_reducible refine Below.drew ?_) | (with_reducible refine below_drewN' ?_ _) | (with_reducible refine below_al ?_) | ((with_reducible refine below_set ?_ ?_); rotate_left; focus (first | (simp; done) | (simp; omega))))⟩
set_option maxRecDepth 100000 in
set_option maxHeartbeats 8000000 in
theorem calRules_day (c : CalP) (r : R8) (wk n : Int) (hf : c.few = true) (hm : c.may = true) (hr : r.may = true) (dn : dayB n = false) (w : World) (hL : Laid w) (hN : AllOff w) (hc : CalIn w c) : Calls Tryd.prog 14 #[.agg #[.bool c.o0, .bool c.o1, .bool c.o2, .bool c.o3, .bool c.o4, .bool c.o5, .bool c.o6, .slice c.A c.rs.length c.cR, .slice c.D c.ds.length c.cD, .int .i64 r.kd, .int .i64 r.mo, .int .i64 r.da, .int .i64 r.kk, .int .i64 r.off, .int .i64 r.sh, .int .i64 r.fr, .int .i64 r.to, .int .u8 wk, .int .i64 n]] w fun e w' => e = .returned (.bool true) ∧ Below w.heap.size w w' := by
  have hB : Below w.heap.size w w := Below.refl _ _
  go_enter Tryd.func14, Tryd.ntmps14
  (try go_simp); (repeat (first | ((with_reducible refine wp_region_app ?_); simp only [List.cons_append, List.nil_append]) | go_values | go_skip | go_guarded | go_step | go_upon))
  refine (shown13_c _ (hL.below (by repeat (first | assumption | exact Below.refl _ _ | (with_reducible refine Below.drew ?_) | (with_reducible refine below_drewN' ?_ _) | (with_reducible refine below_al ?_) | ((with_reducible refine below_set ?_ ?_); rotate_left; focus (first | (simp; done) | (simp; omega)))))) (hN.below (by repeat (first | assumption | exact Below.refl _ _ | (with_reducible refine Below.drew ?_) | (with_reducible refine below_drewN' ?_ _) | (with_reducible refine below_al ?_) | ((with_reducible refine below_set ?_ ?_); rotate_left; focus (first | (simp; done) | (simp; omega))))))).mono ?_; rintro e w1 ⟨rfl, hb1⟩
  have hz1 := hb1.size; (try simp at hz1); obtain ⟨hc1, hf1⟩ := bcell hb1; have hB1 := below_step (w := w) hb1 (by repeat (first | assumption | exact Below.refl _ _ | (with_reducible refine Below.drew ?_) | (with_reducible refine below_drewN' ?_ _) | (with_reducible refine below_al ?_) | ((with_reducible refine below_set ?_ ?_); rotate_left; focus (first | (simp; done) | (simp; omega)))))
  have le_w_w1 : w.heap.size ≤ w1.heap.size := by omega
  try have lt_w_w1 : w.heap.size < w1.heap.size := by omega
  have le1_w_w1 : w.heap.size + 1 ≤ w1.heap.size := by omega
  try have lt1_w_w1 : w.heap.size + 1 < w1.heap.size := by omega
  have le2_w_w1 : w.heap.size + 2 ≤ w1.heap.size := by omega
  try have lt2_w_w1 : w.heap.size + 2 < w1.heap.size := by omega
  (try go_simp); (repeat (first | ((with_reducible refine wp_region_app ?_); simp only [List.cons_append, List.nil_append]) | go_values | go_skip | go_guarded | go_step | go_upon))
  refine (few_c c _).mono ?_; rintro e w2 ⟨rfl, hb2⟩
  have hz2 := hb2.size; (try simp at hz2); obtain ⟨hc2, hf2⟩ := bcell hb2; have hB2 := below_step (w := w) hb2 (by repeat (first | assumption | exact Below.refl _ _ | (with_reducible refine Below.drew ?_) | (with_reducible refine below_drewN' ?_ _) | (with_reducible refine below_al ?_) | ((with_reducible refine below_set ?_ ?_); rotate_left; focus (first | (simp; done) | (simp; omega)))))
  have le_w_w2 : w.heap.size ≤ w2.heap.size := by omega
  try have lt_w_w2 : w.heap.size < w2.heap.size := by omega
  have le1_w_w2 : w.heap.size + 1 ≤ w2.heap.size := by omega
  try have lt1_w_w2 : w.heap.size + 1 < w2.heap.size := by omega
  have le2_w_w2 : w.heap.size + 2 ≤ w2.heap.size := by omega
  try have lt2_w_w2 : w.heap.size + 2 < w2.heap.size := by omega
  have le_w1_w2 : w1.heap.size ≤ w2.heap.size := by omega
  try have lt_w1_w2 : w1.heap.size < w2.heap.size := by omega
  (try go_simp); (repeat (first | ((with_reducible refine wp_region_app ?_); simp only [List.cons_append, List.nil_append]) | go_values | go_skip | go_guarded | go_step | go_upon))
  refine (rcalMay_c c _ (hc.below (by repeat (first | assumption | exact Below.refl _ _ | (with_reducible refine Below.drew ?_) | (with_reducible refine below_drewN' ?_ _) | (with_reducible refine below_al ?_) | ((with_reducible refine below_set ?_ ?_); rotate_left; focus (first | (simp; done) | (simp; omega))))))).mono ?_; rintro e w3 ⟨rfl, hb3⟩
  have hz3 := hb3.size; (try simp at hz3); obtain ⟨hc3, hf3⟩ := bcell hb3; have hB3 := below_step (w := w) hb3 (by repeat (first | assumption | exact Below.refl _ _ | (with_reducible refine Below.drew ?_) | (with_reducible refine below_drewN' ?_ _) | (with_reducible refine below_al ?_) | ((with_reducible refine below_set ?_ ?_); rotate_left; focus (first | (simp; done) | (simp; omega)))))
  have le_w_w3 : w.heap.size ≤ w3.heap.size := by omega
  try have lt_w_w3 : w.heap.size < w3.heap.size := by omega
  have le1_w_w3 : w.heap.size + 1 ≤ w3.heap.size := by omega
  try have lt1_w_w3 : w.heap.size + 1 < w3.heap.size := by omega
  have le2_w_w3 : w.heap.size + 2 ≤ w3.heap.size := by omega
  try have lt2_w_w3 : w.heap.size + 2 < w3.heap.size := by omega
  have le_w1_w3 : w1.heap.size ≤ w3.heap.size := by omega
  try have lt_w1_w3 : w1.heap.size < w3.heap.size := by omega
  have le_w2_w3 : w2.heap.size ≤ w3.heap.size := by omega
  try have lt_w2_w3 : w2.heap.size < w3.heap.size := by omega
  (try go_simp); (repeat (first | ((with_reducible refine wp_region_app ?_); simp only [List.cons_append, List.nil_append]) | go_values | go_skip | go_guarded | go_step | go_upon))
  refine (rmayR_c r _).mono ?_; rintro e w4 ⟨rfl, hb4⟩
  have hz4 := hb4.size; (try simp at hz4); obtain ⟨hc4, hf4⟩ := bcell hb4; have hB4 := below_step (w := w) hb4 (by repeat (first | assumption | exact Below.refl _ _ | (with_reducible refine Below.drew ?_) | (with_reducible refine below_drewN' ?_ _) | (with_reducible refine below_al ?_) | ((with_reducible refine below_set ?_ ?_); rotate_left; focus (first | (simp; done) | (simp; omega)))))
  have le_w_w4 : w.heap.size ≤ w4.heap.size := by omega
  try have lt_w_w4 : w.heap.size < w4.heap.size := by omega
  have le1_w_w4 : w.heap.size + 1 ≤ w4.heap.size := by omega
  try have lt1_w_w4 : w.heap.size + 1 < w4.heap.size := by omega
  have le2_w_w4 : w.heap.size + 2 ≤ w4.heap.size := by omega
  try have lt2_w_w4 : w.heap.size + 2 < w4.heap.size := by omega
  have le_w1_w4 : w1.heap.size ≤ w4.heap.size := by omega
  try have lt_w1_w4 : w1.heap.size < w4.heap.size := by omega
  have le_w2_w4 : w2.heap.size ≤ w4.heap.size := by omega
  try have lt_w2_w4 : w2.heap.size < w4.heap.size := by omega
  have le_w3_w4 : w3.heap.size ≤ w4.heap.size := by omega
  try have lt_w3_w4 : w3.heap.size < w4.heap.size := by omega
  (try go_simp); (repeat (first | ((with_reducible refine wp_region_app ?_); simp only [List.cons_append, List.nil_append]) | go_values | go_skip | go_guarded | go_step | go_upon))
  refine (rday_c n _).mono ?_; rintro e w' ⟨rfl, rfl⟩
  (try go_simp); (repeat (first | ((with_reducible refine wp_region_app ?_); simp only [List.cons_append, List.nil_append]) | go_values | go_skip | go_guarded | go_step | go_upon))
  go_ret
  exact ⟨rfl, by repeat (first | assumption | exact Below.refl _ _ | (with_reducible refine Below.drew ?_) | (with_reducible refine below_drewN' ?_ _) | (with_reducible refine below_al ?_) | ((with_reducible refine below_set ?_ ?_); rotate_left; focus (first | (simp; done) | (simp; omega))))⟩
set_option maxRecDepth 100000 in
set_option maxHeartbeats 8000000 in
theorem calRules_tt (c : CalP) (r : R8) (wk n : Int) (hf : c.few = true) (hm : c.may = true) (hr : r.may = true) (dn : dayB n = true) (k : Nat) (hk7 : k < 7) (z1 : IntKind.i64.wrap wk = wk) (hkk : wk.tmod 7 = (k : Int)) (R X : Bool) (eW : Hid (c.is n = true)) (eR : Hid (r.is n = R)) (hX : (Cal.wd n != (k : Int)) = X) (eM : Hid ((c.offK k).may = true)) (w : World) (hL : Laid w) (hN : AllOff w) (hc : CalIn w c) : Calls Tryd.prog 14 #[.agg #[.bool c.o0, .bool c.o1, .bool c.o2, .bool c.o3, .bool c.o4, .bool c.o5, .bool c.o6, .slice c.A c.rs.length c.cR, .slice c.D c.ds.length c.cD, .int .i64 r.kd, .int .i64 r.mo, .int .i64 r.da, .int .i64 r.kk, .int .i64 r.off, .int .i64 r.sh, .int .i64 r.fr, .int .i64 r.to, .int .u8 wk, .int .i64 n]] w fun e w' => e = .returned (.bool true) ∧ Below w.heap.size w w' := by
  obtain ⟨i0, hi0, hz0, hs0, hb0⟩ := info_parts infoR
  have fl := few_len hf
  have hB : Below w.heap.size w w := Below.refl _ _
  go_enter Tryd.func14, Tryd.ntmps14
  (try go_simp); (repeat (first | ((with_reducible refine wp_region_app ?_); simp only [List.cons_append, List.nil_append]) | go_values | go_skip | go_guarded | go_step | go_upon))
  refine (shown13_c _ (hL.below (by repeat (first | assumption | exact Below.refl _ _ | (with_reducible refine Below.drew ?_) | (with_reducible refine below_drewN' ?_ _) | (with_reducible refine below_al ?_) | ((with_reducible refine below_set ?_ ?_); rotate_left; focus (first | (simp; done) | (simp; omega)))))) (hN.below (by repeat (first | assumption | exact Below.refl _ _ | (with_reducible refine Below.drew ?_) | (with_reducible refine below_drewN' ?_ _) | (with_reducible refine below_al ?_) | ((with_reducible refine below_set ?_ ?_); rotate_left; focus (first | (simp; done) | (simp; omega))))))).mono ?_; rintro e w1 ⟨rfl, hb1⟩
  have hz1 := hb1.size; (try simp at hz1); obtain ⟨hc1, hf1⟩ := bcell hb1; have hB1 := below_step (w := w) hb1 (by repeat (first | assumption | exact Below.refl _ _ | (with_reducible refine Below.drew ?_) | (with_reducible refine below_drewN' ?_ _) | (with_reducible refine below_al ?_) | ((with_reducible refine below_set ?_ ?_); rotate_left; focus (first | (simp; done) | (simp; omega)))))
  have le_w_w1 : w.heap.size ≤ w1.heap.size := by omega
  try have lt_w_w1 : w.heap.size < w1.heap.size := by omega
  have le1_w_w1 : w.heap.size + 1 ≤ w1.heap.size := by omega
  try have lt1_w_w1 : w.heap.size + 1 < w1.heap.size := by omega
  have le2_w_w1 : w.heap.size + 2 ≤ w1.heap.size := by omega
  try have lt2_w_w1 : w.heap.size + 2 < w1.heap.size := by omega
  (try go_simp); (repeat (first | ((with_reducible refine wp_region_app ?_); simp only [List.cons_append, List.nil_append]) | go_values | go_skip | go_guarded | go_step | go_upon))
  refine (few_c c _).mono ?_; rintro e w2 ⟨rfl, hb2⟩
  have hz2 := hb2.size; (try simp at hz2); obtain ⟨hc2, hf2⟩ := bcell hb2; have hB2 := below_step (w := w) hb2 (by repeat (first | assumption | exact Below.refl _ _ | (with_reducible refine Below.drew ?_) | (with_reducible refine below_drewN' ?_ _) | (with_reducible refine below_al ?_) | ((with_reducible refine below_set ?_ ?_); rotate_left; focus (first | (simp; done) | (simp; omega)))))
  have le_w_w2 : w.heap.size ≤ w2.heap.size := by omega
  try have lt_w_w2 : w.heap.size < w2.heap.size := by omega
  have le1_w_w2 : w.heap.size + 1 ≤ w2.heap.size := by omega
  try have lt1_w_w2 : w.heap.size + 1 < w2.heap.size := by omega
  have le2_w_w2 : w.heap.size + 2 ≤ w2.heap.size := by omega
  try have lt2_w_w2 : w.heap.size + 2 < w2.heap.size := by omega
  have le_w1_w2 : w1.heap.size ≤ w2.heap.size := by omega
  try have lt_w1_w2 : w1.heap.size < w2.heap.size := by omega
  (try go_simp); (repeat (first | ((with_reducible refine wp_region_app ?_); simp only [List.cons_append, List.nil_append]) | go_values | go_skip | go_guarded | go_step | go_upon))
  refine (rcalMay_c c _ (hc.below (by repeat (first | assumption | exact Below.refl _ _ | (with_reducible refine Below.drew ?_) | (with_reducible refine below_drewN' ?_ _) | (with_reducible refine below_al ?_) | ((with_reducible refine below_set ?_ ?_); rotate_left; focus (first | (simp; done) | (simp; omega))))))).mono ?_; rintro e w3 ⟨rfl, hb3⟩
  have hz3 := hb3.size; (try simp at hz3); obtain ⟨hc3, hf3⟩ := bcell hb3; have hB3 := below_step (w := w) hb3 (by repeat (first | assumption | exact Below.refl _ _ | (with_reducible refine Below.drew ?_) | (with_reducible refine below_drewN' ?_ _) | (with_reducible refine below_al ?_) | ((with_reducible refine below_set ?_ ?_); rotate_left; focus (first | (simp; done) | (simp; omega)))))
  have le_w_w3 : w.heap.size ≤ w3.heap.size := by omega
  try have lt_w_w3 : w.heap.size < w3.heap.size := by omega
  have le1_w_w3 : w.heap.size + 1 ≤ w3.heap.size := by omega
  try have lt1_w_w3 : w.heap.size + 1 < w3.heap.size := by omega
  have le2_w_w3 : w.heap.size + 2 ≤ w3.heap.size := by omega
  try have lt2_w_w3 : w.heap.size + 2 < w3.heap.size := by omega
  have le_w1_w3 : w1.heap.size ≤ w3.heap.size := by omega
  try have lt_w1_w3 : w1.heap.size < w3.heap.size := by omega
  have le_w2_w3 : w2.heap.size ≤ w3.heap.size := by omega
  try have lt_w2_w3 : w2.heap.size < w3.heap.size := by omega
  (try go_simp); (repeat (first | ((with_reducible refine wp_region_app ?_); simp only [List.cons_append, List.nil_append]) | go_values | go_skip | go_guarded | go_step | go_upon))
  refine (rmayR_c r _).mono ?_; rintro e w4 ⟨rfl, hb4⟩
  have hz4 := hb4.size; (try simp at hz4); obtain ⟨hc4, hf4⟩ := bcell hb4; have hB4 := below_step (w := w) hb4 (by repeat (first | assumption | exact Below.refl _ _ | (with_reducible refine Below.drew ?_) | (with_reducible refine below_drewN' ?_ _) | (with_reducible refine below_al ?_) | ((with_reducible refine below_set ?_ ?_); rotate_left; focus (first | (simp; done) | (simp; omega)))))
  have le_w_w4 : w.heap.size ≤ w4.heap.size := by omega
  try have lt_w_w4 : w.heap.size < w4.heap.size := by omega
  have le1_w_w4 : w.heap.size + 1 ≤ w4.heap.size := by omega
  try have lt1_w_w4 : w.heap.size + 1 < w4.heap.size := by omega
  have le2_w_w4 : w.heap.size + 2 ≤ w4.heap.size := by omega
  try have lt2_w_w4 : w.heap.size + 2 < w4.heap.size := by omega
  have le_w1_w4 : w1.heap.size ≤ w4.heap.size := by omega
  try have lt_w1_w4 : w1.heap.size < w4.heap.size := by omega
  have le_w2_w4 : w2.heap.size ≤ w4.heap.size := by omega
  try have lt_w2_w4 : w2.heap.size < w4.heap.size := by omega
  have le_w3_w4 : w3.heap.size ≤ w4.heap.size := by omega
  try have lt_w3_w4 : w3.heap.size < w4.heap.size := by omega
  (try go_simp); (repeat (first | ((with_reducible refine wp_region_app ?_); simp only [List.cons_append, List.nil_append]) | go_values | go_skip | go_guarded | go_step | go_upon))
  refine (rday_c n _).mono ?_; rintro e w' ⟨rfl, rfl⟩
  (try go_simp); (repeat (first | ((with_reducible refine wp_region_app ?_); simp only [List.cons_append, List.nil_append]) | go_values | go_skip | go_guarded | go_step | go_upon))
  have hRS : ∃ rs', c.rs ++ [r] = rs' := ⟨_, rfl⟩
  obtain ⟨rs', hrs⟩ := hRS
  have HRS := Lib.hid hrs; clear hrs
  have hlen : rs'.length = c.rs.length + 1 := by rw [← HRS.out]; simp
  have HLEN := Lib.hid hlen; clear hlen
  generalize hW : (w4.alloc _) = w5
  have hblk : w5.heap[w4.heap.size]? = some (.cells #[.bool c.o0, .bool c.o1, .bool c.o2, .bool c.o3, .bool c.o4, .bool c.o5, .bool c.o6, .slice c.A c.rs.length c.cR, .slice c.D c.ds.length c.cD] 26 (0, 0)) := by rw [← hW]; exact blk_nu rfl
  have hw5 : w5.heap.size = w4.heap.size + 1 := by rw [← hW]; simp
  have hb5 : Below w4.heap.size w4 w5 := by rw [← hW]; exact below_al (Below.refl _ _)
  have e0 : w4.cell? ⟨w.heap.size + 1, 7, none⟩ = some (.slice c.A c.rs.length c.cR) := below_some hb4 _ _ _ (below_some hb3 _ _ _ (below_some hb2 _ _ _ (below_some hb1 _ _ _ (cell_al (cell_nu (by simp) rfl)))))
  have e1 : w4.cell? ⟨w.heap.size + 1 + 1, 0, none⟩ = some (.int .i64 r.kd) := below_some hb4 _ _ _ (below_some hb3 _ _ _ (below_some hb2 _ _ _ (below_some hb1 _ _ _ (cell_nu (by simp) rfl))))
  have e2 : w4.cell? ⟨w.heap.size + 1 + 1, 1, none⟩ = some (.int .i64 r.mo) := below_some hb4 _ _ _ (below_some hb3 _ _ _ (below_some hb2 _ _ _ (below_some hb1 _ _ _ (cell_nu (by simp) rfl))))
  have e3 : w4.cell? ⟨w.heap.size + 1 + 1, 2, none⟩ = some (.int .i64 r.da) := below_some hb4 _ _ _ (below_some hb3 _ _ _ (below_some hb2 _ _ _ (below_some hb1 _ _ _ (cell_nu (by simp) rfl))))
  have e4 : w4.cell? ⟨w.heap.size + 1 + 1, 3, none⟩ = some (.int .i64 r.kk) := below_some hb4 _ _ _ (below_some hb3 _ _ _ (below_some hb2 _ _ _ (below_some hb1 _ _ _ (cell_nu (by simp) rfl))))
  have e5 : w4.cell? ⟨w.heap.size + 1 + 1, 4, none⟩ = some (.int .i64 r.off) := below_some hb4 _ _ _ (below_some hb3 _ _ _ (below_some hb2 _ _ _ (below_some hb1 _ _ _ (cell_nu (by simp) rfl))))
  have e6 : w4.cell? ⟨w.heap.size + 1 + 1, 5, none⟩ = some (.int .i64 r.sh) := below_some hb4 _ _ _ (below_some hb3 _ _ _ (below_some hb2 _ _ _ (below_some hb1 _ _ _ (cell_nu (by simp) rfl))))
  have e7 : w4.cell? ⟨w.heap.size + 1 + 1, 6, none⟩ = some (.int .i64 r.fr) := below_some hb4 _ _ _ (below_some hb3 _ _ _ (below_some hb2 _ _ _ (below_some hb1 _ _ _ (cell_nu (by simp) rfl))))
  have e8 : w4.cell? ⟨w.heap.size + 1 + 1, 7, none⟩ = some (.int .i64 r.to) := below_some hb4 _ _ _ (below_some hb3 _ _ _ (below_some hb2 _ _ _ (below_some hb1 _ _ _ (cell_nu (by simp) rfl))))
  have hR := Lib.hid (hc.below hB4).r
  clear hW
  have HS : Hid (∀ W, Below w4.heap.size w4 W → (fun w' => Below w4.heap.size w4 w' ∧ w'.cell? ⟨w.heap.size + 1, 7, none⟩ = some (.slice c.A c.rs.length c.cR) ∧ w'.cell? ⟨w.heap.size + 1 + 1, 0, none⟩ = some (.int .i64 r.kd) ∧ w'.cell? ⟨w.heap.size + 1 + 1, 1, none⟩ = some (.int .i64 r.mo) ∧ w'.cell? ⟨w.heap.size + 1 + 1, 2, none⟩ = some (.int .i64 r.da) ∧ w'.cell? ⟨w.heap.size + 1 + 1, 3, none⟩ = some (.int .i64 r.kk) ∧ w'.cell? ⟨w.heap.size + 1 + 1, 4, none⟩ = some (.int .i64 r.off) ∧ w'.cell? ⟨w.heap.size + 1 + 1, 5, none⟩ = some (.int .i64 r.sh) ∧ w'.cell? ⟨w.heap.size + 1 + 1, 6, none⟩ = some (.int .i64 r.fr) ∧ w'.cell? ⟨w.heap.size + 1 + 1, 7, none⟩ = some (.int .i64 r.to)) W) := Lib.hid (fun W h => ⟨h, below_some h _ _ _ e0, below_some h _ _ _ e1, below_some h _ _ _ e2, below_some h _ _ _ e3, below_some h _ _ _ e4, below_some h _ _ _ e5, below_some h _ _ _ e6, below_some h _ _ _ e7, below_some h _ _ _ e8⟩)
  go_cut [] (fun wx => ∃ (A : Option Addr) (cR : Nat), wx.heap[w4.heap.size]? = some (.cells #[.bool c.o0, .bool c.o1, .bool c.o2, .bool c.o3, .bool c.o4, .bool c.o5, .bool c.o6, .slice A rs'.length cR, .slice c.D c.ds.length c.cD] 26 (0, 0)) ∧ RIn wx A rs' ∧ Below w4.heap.size w4 wx)
  case first =>
    have hRf : Below w4.heap.size w4 w4 := Below.refl _ _
    clear hB1 hB2 hB3 hB4 hb1 hb2 hb3 hb4 hc1 hf1 hc2 hf2 hc3 hf3 hc4 hf4 hL hN hc
    go_region_held3 (fun w' => Below w4.heap.size w4 w' ∧ w'.cell? ⟨w.heap.size + 1, 7, none⟩ = some (.slice c.A c.rs.length c.cR) ∧ w'.cell? ⟨w.heap.size + 1 + 1, 0, none⟩ = some (.int .i64 r.kd) ∧ w'.cell? ⟨w.heap.size + 1 + 1, 1, none⟩ = some (.int .i64 r.mo) ∧ w'.cell? ⟨w.heap.size + 1 + 1, 2, none⟩ = some (.int .i64 r.da) ∧ w'.cell? ⟨w.heap.size + 1 + 1, 3, none⟩ = some (.int .i64 r.kk) ∧ w'.cell? ⟨w.heap.size + 1 + 1, 4, none⟩ = some (.int .i64 r.off) ∧ w'.cell? ⟨w.heap.size + 1 + 1, 5, none⟩ = some (.int .i64 r.sh) ∧ w'.cell? ⟨w.heap.size + 1 + 1, 6, none⟩ = some (.int .i64 r.fr) ∧ w'.cell? ⟨w.heap.size + 1 + 1, 7, none⟩ = some (.int .i64 r.to)) ((refine HS.out _ ?_; repeat (first | (with_reducible assumption) | (with_reducible exact Below.refl _ _) | (with_reducible refine Below.drew ?_) | (with_reducible refine below_drewN' ?_ _) | (with_reducible refine below_al ?_) | ((with_reducible refine below_set ?_ ?_); rotate_left; focus (first | (simp; done) | (simp; omega)))))) (first | (rw [if_pos (by rfl)]; refine wpOper_app_in (.tmp 41) (.tmp 43) _ rfl w5.heap.size 68 i0 _ 8 64 Tryd.underlying23 hi0 hz0 hs0 hb0 (by rfl) (by decide) (.slice (some ⟨_, 0, none⟩) 0 0) 0 [] rfl (own_nil (by repeat (first | assumption | (with_reducible refine blk_dr ?_) | (refine blk_nu (by first | (simp; done) | omega | (simp; omega))) | (with_reducible refine blk_al ?_))) (by first | omega | (simp; done) | (simp; omega))) c.A c.rs.length c.cR (c.rs.flatMap R8.enc) rfl ((hR.out.below (by repeat (first | (with_reducible assumption) | (with_reducible exact Below.refl _ _) | (with_reducible refine Below.drew ?_) | (with_reducible refine below_drewN' ?_ _) | (with_reducible refine below_al ?_) | ((with_reducible refine below_set ?_ ?_); rotate_left; focus (first | (simp; done) | (simp; omega)))))).src) (flat_one _) (by unfold maxLen; omega) (by omega) (by first | omega | (simp; done) | (simp; omega)) ?_; intro v1 w6 hown0 hg1; have hown1 : w6.ownsRow w5.heap.size 68 8 v1 c.rs.length (c.rs.flatMap R8.enc) := (by simpa using hown0); clear hown0; obtain ⟨A1, c1, rfl⟩ := owns_any hown1; have hbq : Below w4.heap.size w4 w6 := Below.grown (by repeat (first | (with_reducible assumption) | (with_reducible exact Below.refl _ _) | (with_reducible refine Below.drew ?_) | (with_reducible refine below_drewN' ?_ _) | (with_reducible refine below_al ?_) | ((with_reducible refine below_set ?_ ?_); rotate_left; focus (first | (simp; done) | (simp; omega))))) hg1 (by first | omega | (simp; done) | (simp; omega)) (fun k hk => by cases hk; first | omega | (simp; done) | (simp; omega)); have hz6 := hg1.size; (try simp at hz6); have hblk6 : w6.heap[w4.heap.size]? = some (.cells #[.bool c.o0, .bool c.o1, .bool c.o2, .bool c.o3, .bool c.o4, .bool c.o5, .bool c.o6, .slice c.A c.rs.length c.cR, .slice c.D c.ds.length c.cD] 26 (0, 0)) := blk_gr hg1 (by simp [Value.ownBlock] <;> omega) (by repeat (first | assumption | (with_reducible refine blk_dr ?_) | (refine blk_nu (by first | (simp; done) | omega | (simp; omega))) | (with_reducible refine blk_al ?_)))) | (rw [if_pos (by rfl)]; refine wpOper_app_in (.tmp 44) (.tmp 46) _ rfl w5.heap.size 68 i0 _ 8 64 Tryd.underlying23 hi0 hz0 hs0 hb0 (by rfl) (by decide) (.slice A1 c.rs.length c1) c.rs.length (c.rs.flatMap R8.enc) rfl (own_of hown1 (fun k B h => by repeat (first | assumption | (with_reducible refine blk_dr ?_) | (with_reducible refine blk_al ?_)))) _ 1 1 r.enc rfl (src_blk (cs := r.enc.toArray) (by repeat (first | assumption | (with_reducible refine blk_dr ?_) | (refine blk_nu (by first | (simp; done) | omega | (simp; omega))) | (with_reducible refine blk_al ?_) | (refine blk_gr hg1 (by simp [Value.ownBlock] <;> omega) ?_))) rfl) (enc_one r) (by unfold maxLen; omega) (by omega) (by first | omega | (simp; done) | (simp; omega)) ?_; intro v2 w7 hown2 hg2; have hown3 : w7.ownsRow w5.heap.size 68 8 v2 (c.rs.length + 1) (rs'.flatMap R8.enc) := (by rw [← HRS.out, List.flatMap_append]; simpa using hown2); obtain ⟨A, cR, rfl, hr2⟩ := owns_rules hown3; have hbq2 : Below w4.heap.size w4 w7 := Below.grown (by repeat (first | (with_reducible assumption) | (with_reducible exact Below.refl _ _) | (with_reducible refine Below.drew ?_) | (with_reducible refine below_drewN' ?_ _) | (with_reducible refine below_al ?_) | ((with_reducible refine below_set ?_ ?_); rotate_left; focus (first | (simp; done) | (simp; omega))))) hg2 (by first | omega | (simp; done) | (simp; omega)) (fun k hk => by have := (hown1.lt k hk).1; omega); have hz7 := hg2.size; (try simp at hz7); have hblk7 : w7.heap[w4.heap.size]? = some (.cells #[.bool c.o0, .bool c.o1, .bool c.o2, .bool c.o3, .bool c.o4, .bool c.o5, .bool c.o6, .slice c.A c.rs.length c.cR, .slice c.D c.ds.length c.cD] 26 (0, 0)) := blk_gr hg2 (fun e => by have := (hown1.lt _ e).1; omega) (by repeat (first | assumption | (with_reducible refine blk_dr ?_) | (refine blk_nu (by first | (simp; done) | omega | (simp; omega))) | (with_reducible refine blk_al ?_))); have hc7 : w7.cell? ⟨w4.heap.size, 7, none⟩ = some (.slice c.A c.rs.length c.cR) := blk_cell hblk7 rfl; have hf7 : w7.frozen? ⟨w4.heap.size, 7, none⟩ = false := blk_free hblk7))
    all_goals (go_wp2_with fail; go_meet; exact ⟨A, cR, by have h := blk_set (i := 7) (u := .slice A rs'.length cR) hblk7; simpa using h, ((hr2.bt (owns_base hown3)).set (Or.inl (by omega))).to (by simp), below_set hbq2 (Nat.le_refl _)⟩)
  case rest =>
    obtain ⟨A, cR, hbk, hrA, hBx⟩ := hcut
    have hBc : Below w.heap.size w wc := hB4.trans (hBx.mono hB4.size)
    have hk0z : (0 : Int) ≤ (k : Int) := by omega
    have hk7z : (k : Int) < 7 := by omega
    have g0 := below_some hBx _ _ _ (show w4.cell? ⟨w.heap.size + 1, 0, none⟩ = some (.bool c.o0) from below_some hb4 _ _ _ (below_some hb3 _ _ _ (below_some hb2 _ _ _ (below_some hb1 _ _ _ (cell_al (cell_nu (by simp) rfl))))))
    have g1 := below_some hBx _ _ _ (show w4.cell? ⟨w.heap.size + 1, 1, none⟩ = some (.bool c.o1) from below_some hb4 _ _ _ (below_some hb3 _ _ _ (below_some hb2 _ _ _ (below_some hb1 _ _ _ (cell_al (cell_nu (by simp) rfl))))))
    have g2 := below_some hBx _ _ _ (show w4.cell? ⟨w.heap.size + 1, 2, none⟩ = some (.bool c.o2) from below_some hb4 _ _ _ (below_some hb3 _ _ _ (below_some hb2 _ _ _ (below_some hb1 _ _ _ (cell_al (cell_nu (by simp) rfl))))))
    have g3 := below_some hBx _ _ _ (show w4.cell? ⟨w.heap.size + 1, 3, none⟩ = some (.bool c.o3) from below_some hb4 _ _ _ (below_some hb3 _ _ _ (below_some hb2 _ _ _ (below_some hb1 _ _ _ (cell_al (cell_nu (by simp) rfl))))))
    have g4 := below_some hBx _ _ _ (show w4.cell? ⟨w.heap.size + 1, 4, none⟩ = some (.bool c.o4) from below_some hb4 _ _ _ (below_some hb3 _ _ _ (below_some hb2 _ _ _ (below_some hb1 _ _ _ (cell_al (cell_nu (by simp) rfl))))))
    have g5 := below_some hBx _ _ _ (show w4.cell? ⟨w.heap.size + 1, 5, none⟩ = some (.bool c.o5) from below_some hb4 _ _ _ (below_some hb3 _ _ _ (below_some hb2 _ _ _ (below_some hb1 _ _ _ (cell_al (cell_nu (by simp) rfl))))))
    have g6 := below_some hBx _ _ _ (show w4.cell? ⟨w.heap.size + 1, 6, none⟩ = some (.bool c.o6) from below_some hb4 _ _ _ (below_some hb3 _ _ _ (below_some hb2 _ _ _ (below_some hb1 _ _ _ (cell_al (cell_nu (by simp) rfl))))))
    have g7 := below_some hBx _ _ _ (show w4.cell? ⟨w.heap.size + 1, 7, none⟩ = some (.slice c.A c.rs.length c.cR) from below_some hb4 _ _ _ (below_some hb3 _ _ _ (below_some hb2 _ _ _ (below_some hb1 _ _ _ (cell_al (cell_nu (by simp) rfl))))))
    have g8 := below_some hBx _ _ _ (show w4.cell? ⟨w.heap.size + 1, 8, none⟩ = some (.slice c.D c.ds.length c.cD) from below_some hb4 _ _ _ (below_some hb3 _ _ _ (below_some hb2 _ _ _ (below_some hb1 _ _ _ (cell_al (cell_nu (by simp) rfl))))))
    have G0 := Lib.hid (below_some hBx _ _ _ e1)
    have G1 := Lib.hid (below_some hBx _ _ _ e2)
    have G2 := Lib.hid (below_some hBx _ _ _ e3)
    have G3 := Lib.hid (below_some hBx _ _ _ e4)
    have G4 := Lib.hid (below_some hBx _ _ _ e5)
    have G5 := Lib.hid (below_some hBx _ _ _ e6)
    have G6 := Lib.hid (below_some hBx _ _ _ e7)
    have G7 := Lib.hid (below_some hBx _ _ _ e8)
    clear e0 e1 e2 e3 e4 e5 e6 e7 e8 HS hblk hw5 hb5
    have HR := Lib.hid hrA; have HC := Lib.hid (hc.below hBc); have HL := Lib.hid (hL.below hBc); have HK := Lib.hid (CalP.ok hm); have HBK := Lib.hid hbk; clear hrA hbk
    clear hc hL hN hB1 hB2 hB3 hB4 hb1 hb2 hb3 hb4 hc1 hf1 hc2 hf2 hc3 hf3 hc4 hf4 hR
    try clear le_w_w1
    try clear lt_w_w1
    try clear le1_w_w1
    try clear lt1_w_w1
    try clear le2_w_w1
    try clear lt2_w_w1
    try clear le_w_w2
    try clear lt_w_w2
    try clear le1_w_w2
    try clear lt1_w_w2
    try clear le2_w_w2
    try clear lt2_w_w2
    try clear le_w_w3
    try clear lt_w_w3
    try clear le1_w_w3
    try clear lt1_w_w3
    try clear le2_w_w3
    try clear lt2_w_w3
    try clear le_w_w4
    try clear lt_w_w4
    try clear le1_w_w4
    try clear lt1_w_w4
    try clear le2_w_w4
    try clear lt2_w_w4
    try clear le_w1_w2
    try clear lt_w1_w2
    try clear le1_w1_w2
    try clear lt1_w1_w2
    try clear le2_w1_w2
    try clear lt2_w1_w2
    try clear le_w1_w3
    try clear lt_w1_w3
    try clear le1_w1_w3
    try clear lt1_w1_w3
    try clear le2_w1_w3
    try clear lt2_w1_w3
    try clear le_w1_w4
    try clear lt_w1_w4
    try clear le1_w1_w4
    try clear lt1_w1_w4
    try clear le2_w1_w4
    try clear lt2_w1_w4
    try clear le_w2_w3
    try clear lt_w2_w3
    try clear le1_w2_w3
    try clear lt1_w2_w3
    try clear le2_w2_w3
    try clear lt2_w2_w3
    try clear le_w2_w4
    try clear lt_w2_w4
    try clear le1_w2_w4
    try clear lt1_w2_w4
    try clear le2_w2_w4
    try clear lt2_w2_w4
    try clear le_w3_w4
    try clear lt_w3_w4
    try clear le1_w3_w4
    try clear lt1_w3_w4
    try clear le2_w3_w4
    try clear lt2_w3_w4
    have hck : (wc.alloc (.cells #[.bool c.o0, .bool c.o1, .bool c.o2, .bool c.o3, .bool c.o4, .bool c.o5, .bool c.o6, .slice c.A c.rs.length c.cR, .slice c.D c.ds.length c.cD] 26)).cell? ⟨wc.heap.size, k, none⟩ = some (.bool (c.off k)) := cell_nu rfl (off_at c k hk7)
    have hfk : (wc.alloc (.cells #[.bool c.o0, .bool c.o1, .bool c.o2, .bool c.o3, .bool c.o4, .bool c.o5, .bool c.o6, .slice c.A c.rs.length c.cR, .slice c.D c.ds.length c.cD] 26)).frozen? ⟨wc.heap.size, k, none⟩ = false := blk_free (blk_nu rfl)
    go_upto_region 13 with fail
    generalize hW8 : (wc.alloc _) = w8
    have hB8 : Below w.heap.size w w8 := by rw [← hW8]; exact below_al hBc
    have Fc0 : Hid (w8.cell? ⟨w.heap.size + 1, 0, none⟩ = some (.bool c.o0)) := Lib.hid (by rw [← hW8]; exact cell_al g0)
    have Fc1 : Hid (w8.cell? ⟨w.heap.size + 1, 1, none⟩ = some (.bool c.o1)) := Lib.hid (by rw [← hW8]; exact cell_al g1)
    have Fc2 : Hid (w8.cell? ⟨w.heap.size + 1, 2, none⟩ = some (.bool c.o2)) := Lib.hid (by rw [← hW8]; exact cell_al g2)
    have Fc3 : Hid (w8.cell? ⟨w.heap.size + 1, 3, none⟩ = some (.bool c.o3)) := Lib.hid (by rw [← hW8]; exact cell_al g3)
    have Fc4 : Hid (w8.cell? ⟨w.heap.size + 1, 4, none⟩ = some (.bool c.o4)) := Lib.hid (by rw [← hW8]; exact cell_al g4)
    have Fc5 : Hid (w8.cell? ⟨w.heap.size + 1, 5, none⟩ = some (.bool c.o5)) := Lib.hid (by rw [← hW8]; exact cell_al g5)
    have Fc6 : Hid (w8.cell? ⟨w.heap.size + 1, 6, none⟩ = some (.bool c.o6)) := Lib.hid (by rw [← hW8]; exact cell_al g6)
    have Fc7 : Hid (w8.cell? ⟨w.heap.size + 1, 7, none⟩ = some (.slice c.A c.rs.length c.cR)) := Lib.hid (by rw [← hW8]; exact cell_al g7)
    have Fc8 : Hid (w8.cell? ⟨w.heap.size + 1, 8, none⟩ = some (.slice c.D c.ds.length c.cD)) := Lib.hid (by rw [← hW8]; exact cell_al g8)
    have Fr0 : Hid (w8.cell? ⟨w.heap.size + 1 + 1, 0, none⟩ = some (.int .i64 r.kd)) := Lib.hid (by rw [← hW8]; exact cell_al G0.out)
    have Fr1 : Hid (w8.cell? ⟨w.heap.size + 1 + 1, 1, none⟩ = some (.int .i64 r.mo)) := Lib.hid (by rw [← hW8]; exact cell_al G1.out)
    have Fr2 : Hid (w8.cell? ⟨w.heap.size + 1 + 1, 2, none⟩ = some (.int .i64 r.da)) := Lib.hid (by rw [← hW8]; exact cell_al G2.out)
    have Fr3 : Hid (w8.cell? ⟨w.heap.size + 1 + 1, 3, none⟩ = some (.int .i64 r.kk)) := Lib.hid (by rw [← hW8]; exact cell_al G3.out)
    have Fr4 : Hid (w8.cell? ⟨w.heap.size + 1 + 1, 4, none⟩ = some (.int .i64 r.off)) := Lib.hid (by rw [← hW8]; exact cell_al G4.out)
    have Fr5 : Hid (w8.cell? ⟨w.heap.size + 1 + 1, 5, none⟩ = some (.int .i64 r.sh)) := Lib.hid (by rw [← hW8]; exact cell_al G5.out)
    have Fr6 : Hid (w8.cell? ⟨w.heap.size + 1 + 1, 6, none⟩ = some (.int .i64 r.fr)) := Lib.hid (by rw [← hW8]; exact cell_al G6.out)
    have Fr7 : Hid (w8.cell? ⟨w.heap.size + 1 + 1, 7, none⟩ = some (.int .i64 r.to)) := Lib.hid (by rw [← hW8]; exact cell_al G7.out)
    have Fa0 : Hid (w8.cell? ⟨w4.heap.size, 0, none⟩ = some (.bool c.o0)) := Lib.hid (by rw [← hW8]; exact cell_al (blk_cell HBK.out rfl))
    have Fa1 : Hid (w8.cell? ⟨w4.heap.size, 1, none⟩ = some (.bool c.o1)) := Lib.hid (by rw [← hW8]; exact cell_al (blk_cell HBK.out rfl))
    have Fa2 : Hid (w8.cell? ⟨w4.heap.size, 2, none⟩ = some (.bool c.o2)) := Lib.hid (by rw [← hW8]; exact cell_al (blk_cell HBK.out rfl))
    have Fa3 : Hid (w8.cell? ⟨w4.heap.size, 3, none⟩ = some (.bool c.o3)) := Lib.hid (by rw [← hW8]; exact cell_al (blk_cell HBK.out rfl))
    have Fa4 : Hid (w8.cell? ⟨w4.heap.size, 4, none⟩ = some (.bool c.o4)) := Lib.hid (by rw [← hW8]; exact cell_al (blk_cell HBK.out rfl))
    have Fa5 : Hid (w8.cell? ⟨w4.heap.size, 5, none⟩ = some (.bool c.o5)) := Lib.hid (by rw [← hW8]; exact cell_al (blk_cell HBK.out rfl))
    have Fa6 : Hid (w8.cell? ⟨w4.heap.size, 6, none⟩ = some (.bool c.o6)) := Lib.hid (by rw [← hW8]; exact cell_al (blk_cell HBK.out rfl))
    have Fa7 : Hid (w8.cell? ⟨w4.heap.size, 7, none⟩ = some (.slice A rs'.length cR)) := Lib.hid (by rw [← hW8]; exact cell_al (blk_cell HBK.out rfl))
    have Fa8 : Hid (w8.cell? ⟨w4.heap.size, 8, none⟩ = some (.slice c.D c.ds.length c.cD)) := Lib.hid (by rw [← hW8]; exact cell_al (blk_cell HBK.out rfl))
    have Fo0 : Hid (w8.cell? ⟨wc.heap.size, 0, none⟩ = some (.bool (k == 0 || c.o0))) := Lib.hid (by rw [← hW8]; exact cell_nu rfl (by rw [← List.setIfInBounds_toArray, set_off c k hk7]; rfl))
    have Fo1 : Hid (w8.cell? ⟨wc.heap.size, 1, none⟩ = some (.bool (k == 1 || c.o1))) := Lib.hid (by rw [← hW8]; exact cell_nu rfl (by rw [← List.setIfInBounds_toArray, set_off c k hk7]; rfl))
    have Fo2 : Hid (w8.cell? ⟨wc.heap.size, 2, none⟩ = some (.bool (k == 2 || c.o2))) := Lib.hid (by rw [← hW8]; exact cell_nu rfl (by rw [← List.setIfInBounds_toArray, set_off c k hk7]; rfl))
    have Fo3 : Hid (w8.cell? ⟨wc.heap.size, 3, none⟩ = some (.bool (k == 3 || c.o3))) := Lib.hid (by rw [← hW8]; exact cell_nu rfl (by rw [← List.setIfInBounds_toArray, set_off c k hk7]; rfl))
    have Fo4 : Hid (w8.cell? ⟨wc.heap.size, 4, none⟩ = some (.bool (k == 4 || c.o4))) := Lib.hid (by rw [← hW8]; exact cell_nu rfl (by rw [← List.setIfInBounds_toArray, set_off c k hk7]; rfl))
    have Fo5 : Hid (w8.cell? ⟨wc.heap.size, 5, none⟩ = some (.bool (k == 5 || c.o5))) := Lib.hid (by rw [← hW8]; exact cell_nu rfl (by rw [← List.setIfInBounds_toArray, set_off c k hk7]; rfl))
    have Fo6 : Hid (w8.cell? ⟨wc.heap.size, 6, none⟩ = some (.bool (k == 6 || c.o6))) := Lib.hid (by rw [← hW8]; exact cell_nu rfl (by rw [← List.setIfInBounds_toArray, set_off c k hk7]; rfl))
    have Fo7 : Hid (w8.cell? ⟨wc.heap.size, 7, none⟩ = some (.slice c.A c.rs.length c.cR)) := Lib.hid (by rw [← hW8]; exact cell_nu rfl (by rw [← List.setIfInBounds_toArray, set_off c k hk7]; rfl))
    have Fo8 : Hid (w8.cell? ⟨wc.heap.size, 8, none⟩ = some (.slice c.D c.ds.length c.cD)) := Lib.hid (by rw [← hW8]; exact cell_nu rfl (by rw [← List.setIfInBounds_toArray, set_off c k hk7]; rfl))
    have h8 : Below wc.heap.size wc w8 := by rw [← hW8]; exact below_al (Below.refl _ _)
    have IC := Lib.hid (HC.out.below h8); have IL := Lib.hid (HL.out.below h8); have IR := Lib.hid (HR.out.below h8)
    have IA : Hid (CalIn w8 (c.withR A cR rs')) := Lib.hid ⟨IR.out, IC.out.d⟩
    have IO : Hid (CalIn w8 (c.offK k)) := Lib.hid (offK_in k IC.out)
    have KA : Hid (CalOk (c.withR A cR rs')) := Lib.hid (CalP.ok (withR_may A cR hm (by rw [HLEN.out]; omega) (fun x hx => by rw [← HRS.out] at hx; rcases List.mem_append.1 hx with h | h; exact (CalP.may_iff.1 hm).2.2.2.1 x h; rw [List.mem_singleton.1 h]; exact hr)))
    have KO : Hid (CalOk (c.offK k)) := Lib.hid (offK_ok k HK.out)
    have eA : Hid ((c.withR A cR rs').is n = (true && !R)) := Lib.hid (by rw [← HRS.out, withR_more, eW.out, eR.out])
    have eO : Hid ((c.offK k).is n = (true && X)) := Lib.hid (by rw [offK_is c k n hk7, eW.out, hX])
    clear hW8 h8 hBx HC HL HR HBK g0 g1 g2 g3 g4 g5 g6 g7 g8 G0 G1 G2 G3 G4 G5 G6 G7 hck hfk hBc
    have h9 : Hid (Below w8.heap.size w8 w8) := Lib.hid (Below.refl _ _)
    have dc0 := below_some h9.out _ _ _ Fc0.out
    have dc1 := below_some h9.out _ _ _ Fc1.out
    have dc2 := below_some h9.out _ _ _ Fc2.out
    have dc3 := below_some h9.out _ _ _ Fc3.out
    have dc4 := below_some h9.out _ _ _ Fc4.out
    have dc5 := below_some h9.out _ _ _ Fc5.out
    have dc6 := below_some h9.out _ _ _ Fc6.out
    have dc7 := below_some h9.out _ _ _ Fc7.out
    have dc8 := below_some h9.out _ _ _ Fc8.out
    (try go_simp); (repeat (first | ((with_reducible refine wp_region_app ?_); simp only [List.cons_append, List.nil_append]) | go_values | go_skip | go_guarded | go_step | go_upon))
    refine (isV_c c n _ eW HK.out _ (IL.out.below (by have h9 := h9.out; repeat (first | (with_reducible assumption) | (with_reducible exact Below.refl _ _) | (with_reducible refine Below.drew ?_) | (with_reducible refine below_drewN' ?_ _) | (with_reducible refine below_al ?_) | ((with_reducible refine below_set ?_ ?_); rotate_left; focus (first | (simp; done) | (simp; omega)))))) (IC.out.below (by have h9 := h9.out; repeat (first | (with_reducible assumption) | (with_reducible exact Below.refl _ _) | (with_reducible refine Below.drew ?_) | (with_reducible refine below_drewN' ?_ _) | (with_reducible refine below_al ?_) | ((with_reducible refine below_set ?_ ?_); rotate_left; focus (first | (simp; done) | (simp; omega))))))).mono ?_; rintro e w9 ⟨rfl, hb⟩
    have h9' := Lib.hid (below_step (w := w8) hb (by have h9 := h9.out; repeat (first | (with_reducible assumption) | (with_reducible exact Below.refl _ _) | (with_reducible refine Below.drew ?_) | (with_reducible refine below_drewN' ?_ _) | (with_reducible refine below_al ?_) | ((with_reducible refine below_set ?_ ?_); rotate_left; focus (first | (simp; done) | (simp; omega)))))); clear h9; have h9 := h9'; clear h9' hb
    clear dc0 dc1 dc2 dc3 dc4 dc5 dc6 dc7 dc8
    have da0 := below_some h9.out _ _ _ Fa0.out
    have da1 := below_some h9.out _ _ _ Fa1.out
    have da2 := below_some h9.out _ _ _ Fa2.out
    have da3 := below_some h9.out _ _ _ Fa3.out
    have da4 := below_some h9.out _ _ _ Fa4.out
    have da5 := below_some h9.out _ _ _ Fa5.out
    have da6 := below_some h9.out _ _ _ Fa6.out
    have da7 := below_some h9.out _ _ _ Fa7.out
    have da8 := below_some h9.out _ _ _ Fa8.out
    (try go_simp); (repeat (first | ((with_reducible refine wp_region_app ?_); simp only [List.cons_append, List.nil_append]) | go_values | go_skip | go_guarded | go_step | go_upon))
    refine (isV_c (c.withR A cR rs') n _ eA KA.out _ (IL.out.below (by have h9 := h9.out; repeat (first | (with_reducible assumption) | (with_reducible exact Below.refl _ _) | (with_reducible refine Below.drew ?_) | (with_reducible refine below_drewN' ?_ _) | (with_reducible refine below_al ?_) | ((with_reducible refine below_set ?_ ?_); rotate_left; focus (first | (simp; done) | (simp; omega)))))) (IA.out.below (by have h9 := h9.out; repeat (first | (with_reducible assumption) | (with_reducible exact Below.refl _ _) | (with_reducible refine Below.drew ?_) | (with_reducible refine below_drewN' ?_ _) | (with_reducible refine below_al ?_) | ((with_reducible refine below_set ?_ ?_); rotate_left; focus (first | (simp; done) | (simp; omega))))))).mono ?_; rintro e w10 ⟨rfl, hb⟩
    have h9' := Lib.hid (below_step (w := w8) hb (by have h9 := h9.out; repeat (first | (with_reducible assumption) | (with_reducible exact Below.refl _ _) | (with_reducible refine Below.drew ?_) | (with_reducible refine below_drewN' ?_ _) | (with_reducible refine below_al ?_) | ((with_reducible refine below_set ?_ ?_); rotate_left; focus (first | (simp; done) | (simp; omega)))))); clear h9; have h9 := h9'; clear h9' hb
    clear da0 da1 da2 da3 da4 da5 da6 da7 da8
    have dr0 := below_some h9.out _ _ _ Fr0.out
    have dr1 := below_some h9.out _ _ _ Fr1.out
    have dr2 := below_some h9.out _ _ _ Fr2.out
    have dr3 := below_some h9.out _ _ _ Fr3.out
    have dr4 := below_some h9.out _ _ _ Fr4.out
    have dr5 := below_some h9.out _ _ _ Fr5.out
    have dr6 := below_some h9.out _ _ _ Fr6.out
    have dr7 := below_some h9.out _ _ _ Fr7.out
    (try go_simp); (repeat (first | ((with_reducible refine wp_region_app ?_); simp only [List.cons_append, List.nil_append]) | go_values | go_skip | go_guarded | go_step | go_upon))
    refine (risV_c r hr n _ eR _).mono ?_; rintro e w11 ⟨rfl, hb⟩
    have h9' := Lib.hid (below_step (w := w8) hb (by have h9 := h9.out; repeat (first | (with_reducible assumption) | (with_reducible exact Below.refl _ _) | (with_reducible refine Below.drew ?_) | (with_reducible refine below_drewN' ?_ _) | (with_reducible refine below_al ?_) | ((with_reducible refine below_set ?_ ?_); rotate_left; focus (first | (simp; done) | (simp; omega)))))); clear h9; have h9 := h9'; clear h9' hb
    clear dr0 dr1 dr2 dr3 dr4 dr5 dr6 dr7
    have do0 := below_some h9.out _ _ _ Fo0.out
    have do1 := below_some h9.out _ _ _ Fo1.out
    have do2 := below_some h9.out _ _ _ Fo2.out
    have do3 := below_some h9.out _ _ _ Fo3.out
    have do4 := below_some h9.out _ _ _ Fo4.out
    have do5 := below_some h9.out _ _ _ Fo5.out
    have do6 := below_some h9.out _ _ _ Fo6.out
    have do7 := below_some h9.out _ _ _ Fo7.out
    have do8 := below_some h9.out _ _ _ Fo8.out
    (try go_simp); (repeat (first | ((with_reducible refine wp_region_app ?_); simp only [List.cons_append, List.nil_append]) | go_values | go_skip | go_guarded | go_step | go_upon))
    refine (rmayV_c (c.offK k) _ eM _ (IO.out.below (by have h9 := h9.out; repeat (first | (with_reducible assumption) | (with_reducible exact Below.refl _ _) | (with_reducible refine Below.drew ?_) | (with_reducible refine below_drewN' ?_ _) | (with_reducible refine below_al ?_) | ((with_reducible refine below_set ?_ ?_); rotate_left; focus (first | (simp; done) | (simp; omega))))))).mono ?_; rintro e w12 ⟨rfl, hb⟩
    have h9' := Lib.hid (below_step (w := w8) hb (by have h9 := h9.out; repeat (first | (with_reducible assumption) | (with_reducible exact Below.refl _ _) | (with_reducible refine Below.drew ?_) | (with_reducible refine below_drewN' ?_ _) | (with_reducible refine below_al ?_) | ((with_reducible refine below_set ?_ ?_); rotate_left; focus (first | (simp; done) | (simp; omega)))))); clear h9; have h9 := h9'; clear h9' hb
    clear do0 do1 do2 do3 do4 do5 do6 do7 do8
    have do0 := below_some h9.out _ _ _ Fo0.out
    have do1 := below_some h9.out _ _ _ Fo1.out
    have do2 := below_some h9.out _ _ _ Fo2.out
    have do3 := below_some h9.out _ _ _ Fo3.out
    have do4 := below_some h9.out _ _ _ Fo4.out
    have do5 := below_some h9.out _ _ _ Fo5.out
    have do6 := below_some h9.out _ _ _ Fo6.out
    have do7 := below_some h9.out _ _ _ Fo7.out
    have do8 := below_some h9.out _ _ _ Fo8.out
    (try go_simp); (repeat (first | ((with_reducible refine wp_region_app ?_); simp only [List.cons_append, List.nil_append]) | go_values | go_skip | go_guarded | go_step | go_upon))
    refine (isV_c (c.offK k) n _ eO KO.out _ (IL.out.below (by have h9 := h9.out; repeat (first | (with_reducible assumption) | (with_reducible exact Below.refl _ _) | (with_reducible refine Below.drew ?_) | (with_reducible refine below_drewN' ?_ _) | (with_reducible refine below_al ?_) | ((with_reducible refine below_set ?_ ?_); rotate_left; focus (first | (simp; done) | (simp; omega)))))) (IO.out.below (by have h9 := h9.out; repeat (first | (with_reducible assumption) | (with_reducible exact Below.refl _ _) | (with_reducible refine Below.drew ?_) | (with_reducible refine below_drewN' ?_ _) | (with_reducible refine below_al ?_) | ((with_reducible refine below_set ?_ ?_); rotate_left; focus (first | (simp; done) | (simp; omega))))))).mono ?_; rintro e w13 ⟨rfl, hb⟩
    have h9' := Lib.hid (below_step (w := w8) hb (by have h9 := h9.out; repeat (first | (with_reducible assumption) | (with_reducible exact Below.refl _ _) | (with_reducible refine Below.drew ?_) | (with_reducible refine below_drewN' ?_ _) | (with_reducible refine below_al ?_) | ((with_reducible refine below_set ?_ ?_); rotate_left; focus (first | (simp; done) | (simp; omega)))))); clear h9; have h9 := h9'; clear h9' hb
    clear do0 do1 do2 do3 do4 do5 do6 do7 do8
    (try go_simp); (repeat (first | ((with_reducible refine wp_region_app ?_); simp only [List.cons_append, List.nil_append]) | go_values | go_skip | go_guarded | go_step | go_upon))
    refine (rwd_c n _).mono ?_; rintro e wz ⟨rfl, rfl⟩
    (try go_simp); (repeat (first | ((with_reducible refine wp_region_app ?_); simp only [List.cons_append, List.nil_append]) | go_values | go_skip | go_guarded | go_step | go_upon))
    go_ret
    exact ⟨rfl, hB8.trans (h9.out.mono hB8.size)⟩
set_option maxRecDepth 100000 in
set_option maxHeartbeats 8000000 in
theorem calRules_tf (c : CalP) (r : R8) (wk n : Int) (hf : c.few = true) (hm : c.may = true) (hr : r.may = true) (dn : dayB n = true) (k : Nat) (hk7 : k < 7) (z1 : IntKind.i64.wrap wk = wk) (hkk : wk.tmod 7 = (k : Int)) (R X : Bool) (eW : Hid (c.is n = true)) (eR : Hid (r.is n = R)) (hX : (Cal.wd n != (k : Int)) = X) (eM : Hid ((c.offK k).may = false)) (w : World) (hL : Laid w) (hN : AllOff w) (hc : CalIn w c) : Calls Tryd.prog 14 #[.agg #[.bool c.o0, .bool c.o1, .bool c.o2, .bool c.o3, .bool c.o4, .bool c.o5, .bool c.o6, .slice c.A c.rs.length c.cR, .slice c.D c.ds.length c.cD, .int .i64 r.kd, .int .i64 r.mo, .int .i64 r.da, .int .i64 r.kk, .int .i64 r.off, .int .i64 r.sh, .int .i64 r.fr, .int .i64 r.to, .int .u8 wk, .int .i64 n]] w fun e w' => e = .returned (.bool true) ∧ Below w.heap.size w w' := by
  obtain ⟨i0, hi0, hz0, hs0, hb0⟩ := info_parts infoR
  have fl := few_len hf
  have hB : Below w.heap.size w w := Below.refl _ _
  go_enter Tryd.func14, Tryd.ntmps14
  (try go_simp); (repeat (first | ((with_reducible refine wp_region_app ?_); simp only [List.cons_append, List.nil_append]) | go_values | go_skip | go_guarded | go_step | go_upon))
  refine (shown13_c _ (hL.below (by repeat (first | assumption | exact Below.refl _ _ | (with_reducible refine Below.drew ?_) | (with_reducible refine below_drewN' ?_ _) | (with_reducible refine below_al ?_) | ((with_reducible refine below_set ?_ ?_); rotate_left; focus (first | (simp; done) | (simp; omega)))))) (hN.below (by repeat (first | assumption | exact Below.refl _ _ | (with_reducible refine Below.drew ?_) | (with_reducible refine below_drewN' ?_ _) | (with_reducible refine below_al ?_) | ((with_reducible refine below_set ?_ ?_); rotate_left; focus (first | (simp; done) | (simp; omega))))))).mono ?_; rintro e w1 ⟨rfl, hb1⟩
  have hz1 := hb1.size; (try simp at hz1); obtain ⟨hc1, hf1⟩ := bcell hb1; have hB1 := below_step (w := w) hb1 (by repeat (first | assumption | exact Below.refl _ _ | (with_reducible refine Below.drew ?_) | (with_reducible refine below_drewN' ?_ _) | (with_reducible refine below_al ?_) | ((with_reducible refine below_set ?_ ?_); rotate_left; focus (first | (simp; done) | (simp; omega)))))
  have le_w_w1 : w.heap.size ≤ w1.heap.size := by omega
  try have lt_w_w1 : w.heap.size < w1.heap.size := by omega
  have le1_w_w1 : w.heap.size + 1 ≤ w1.heap.size := by omega
  try have lt1_w_w1 : w.heap.size + 1 < w1.heap.size := by omega
  have le2_w_w1 : w.heap.size + 2 ≤ w1.heap.size := by omega
  try have lt2_w_w1 : w.heap.size + 2 < w1.heap.size := by omega
  (try go_simp); (repeat (first | ((with_reducible refine wp_region_app ?_); simp only [List.cons_append, List.nil_append]) | go_values | go_skip | go_guarded | go_step | go_upon))
  refine (few_c c _).mono ?_; rintro e w2 ⟨rfl, hb2⟩
  have hz2 := hb2.size; (try simp at hz2); obtain ⟨hc2, hf2⟩ := bcell hb2; have hB2 := below_step (w := w) hb2 (by repeat (first | assumption | exact Below.refl _ _ | (with_reducible refine Below.drew ?_) | (with_reducible refine below_drewN' ?_ _) | (with_reducible refine below_al ?_) | ((with_reducible refine below_set ?_ ?_); rotate_left; focus (first | (simp; done) | (simp; omega)))))
  have le_w_w2 : w.heap.size ≤ w2.heap.size := by omega
  try have lt_w_w2 : w.heap.size < w2.heap.size := by omega
  have le1_w_w2 : w.heap.size + 1 ≤ w2.heap.size := by omega
  try have lt1_w_w2 : w.heap.size + 1 < w2.heap.size := by omega
  have le2_w_w2 : w.heap.size + 2 ≤ w2.heap.size := by omega
  try have lt2_w_w2 : w.heap.size + 2 < w2.heap.size := by omega
  have le_w1_w2 : w1.heap.size ≤ w2.heap.size := by omega
  try have lt_w1_w2 : w1.heap.size < w2.heap.size := by omega
  (try go_simp); (repeat (first | ((with_reducible refine wp_region_app ?_); simp only [List.cons_append, List.nil_append]) | go_values | go_skip | go_guarded | go_step | go_upon))
  refine (rcalMay_c c _ (hc.below (by repeat (first | assumption | exact Below.refl _ _ | (with_reducible refine Below.drew ?_) | (with_reducible refine below_drewN' ?_ _) | (with_reducible refine below_al ?_) | ((with_reducible refine below_set ?_ ?_); rotate_left; focus (first | (simp; done) | (simp; omega))))))).mono ?_; rintro e w3 ⟨rfl, hb3⟩
  have hz3 := hb3.size; (try simp at hz3); obtain ⟨hc3, hf3⟩ := bcell hb3; have hB3 := below_step (w := w) hb3 (by repeat (first | assumption | exact Below.refl _ _ | (with_reducible refine Below.drew ?_) | (with_reducible refine below_drewN' ?_ _) | (with_reducible refine below_al ?_) | ((with_reducible refine below_set ?_ ?_); rotate_left; focus (first | (simp; done) | (simp; omega)))))
  have le_w_w3 : w.heap.size ≤ w3.heap.size := by omega
  try have lt_w_w3 : w.heap.size < w3.heap.size := by omega
  have le1_w_w3 : w.heap.size + 1 ≤ w3.heap.size := by omega
  try have lt1_w_w3 : w.heap.size + 1 < w3.heap.size := by omega
  have le2_w_w3 : w.heap.size + 2 ≤ w3.heap.size := by omega
  try have lt2_w_w3 : w.heap.size + 2 < w3.heap.size := by omega
  have le_w1_w3 : w1.heap.size ≤ w3.heap.size := by omega
  try have lt_w1_w3 : w1.heap.size < w3.heap.size := by omega
  have le_w2_w3 : w2.heap.size ≤ w3.heap.size := by omega
  try have lt_w2_w3 : w2.heap.size < w3.heap.size := by omega
  (try go_simp); (repeat (first | ((with_reducible refine wp_region_app ?_); simp only [List.cons_append, List.nil_append]) | go_values | go_skip | go_guarded | go_step | go_upon))
  refine (rmayR_c r _).mono ?_; rintro e w4 ⟨rfl, hb4⟩
  have hz4 := hb4.size; (try simp at hz4); obtain ⟨hc4, hf4⟩ := bcell hb4; have hB4 := below_step (w := w) hb4 (by repeat (first | assumption | exact Below.refl _ _ | (with_reducible refine Below.drew ?_) | (with_reducible refine below_drewN' ?_ _) | (with_reducible refine below_al ?_) | ((with_reducible refine below_set ?_ ?_); rotate_left; focus (first | (simp; done) | (simp; omega)))))
  have le_w_w4 : w.heap.size ≤ w4.heap.size := by omega
  try have lt_w_w4 : w.heap.size < w4.heap.size := by omega
  have le1_w_w4 : w.heap.size + 1 ≤ w4.heap.size := by omega
  try have lt1_w_w4 : w.heap.size + 1 < w4.heap.size := by omega
  have le2_w_w4 : w.heap.size + 2 ≤ w4.heap.size := by omega
  try have lt2_w_w4 : w.heap.size + 2 < w4.heap.size := by omega
  have le_w1_w4 : w1.heap.size ≤ w4.heap.size := by omega
  try have lt_w1_w4 : w1.heap.size < w4.heap.size := by omega
  have le_w2_w4 : w2.heap.size ≤ w4.heap.size := by omega
  try have lt_w2_w4 : w2.heap.size < w4.heap.size := by omega
  have le_w3_w4 : w3.heap.size ≤ w4.heap.size := by omega
  try have lt_w3_w4 : w3.heap.size < w4.heap.size := by omega
  (try go_simp); (repeat (first | ((with_reducible refine wp_region_app ?_); simp only [List.cons_append, List.nil_append]) | go_values | go_skip | go_guarded | go_step | go_upon))
  refine (rday_c n _).mono ?_; rintro e w' ⟨rfl, rfl⟩
  (try go_simp); (repeat (first | ((with_reducible refine wp_region_app ?_); simp only [List.cons_append, List.nil_append]) | go_values | go_skip | go_guarded | go_step | go_upon))
  have hRS : ∃ rs', c.rs ++ [r] = rs' := ⟨_, rfl⟩
  obtain ⟨rs', hrs⟩ := hRS
  have HRS := Lib.hid hrs; clear hrs
  have hlen : rs'.length = c.rs.length + 1 := by rw [← HRS.out]; simp
  have HLEN := Lib.hid hlen; clear hlen
  generalize hW : (w4.alloc _) = w5
  have hblk : w5.heap[w4.heap.size]? = some (.cells #[.bool c.o0, .bool c.o1, .bool c.o2, .bool c.o3, .bool c.o4, .bool c.o5, .bool c.o6, .slice c.A c.rs.length c.cR, .slice c.D c.ds.length c.cD] 26 (0, 0)) := by rw [← hW]; exact blk_nu rfl
  have hw5 : w5.heap.size = w4.heap.size + 1 := by rw [← hW]; simp
  have hb5 : Below w4.heap.size w4 w5 := by rw [← hW]; exact below_al (Below.refl _ _)
  have e0 : w4.cell? ⟨w.heap.size + 1, 7, none⟩ = some (.slice c.A c.rs.length c.cR) := below_some hb4 _ _ _ (below_some hb3 _ _ _ (below_some hb2 _ _ _ (below_some hb1 _ _ _ (cell_al (cell_nu (by simp) rfl)))))
  have e1 : w4.cell? ⟨w.heap.size + 1 + 1, 0, none⟩ = some (.int .i64 r.kd) := below_some hb4 _ _ _ (below_some hb3 _ _ _ (below_some hb2 _ _ _ (below_some hb1 _ _ _ (cell_nu (by simp) rfl))))
  have e2 : w4.cell? ⟨w.heap.size + 1 + 1, 1, none⟩ = some (.int .i64 r.mo) := below_some hb4 _ _ _ (below_some hb3 _ _ _ (below_some hb2 _ _ _ (below_some hb1 _ _ _ (cell_nu (by simp) rfl))))
  have e3 : w4.cell? ⟨w.heap.size + 1 + 1, 2, none⟩ = some (.int .i64 r.da) := below_some hb4 _ _ _ (below_some hb3 _ _ _ (below_some hb2 _ _ _ (below_some hb1 _ _ _ (cell_nu (by simp) rfl))))
  have e4 : w4.cell? ⟨w.heap.size + 1 + 1, 3, none⟩ = some (.int .i64 r.kk) := below_some hb4 _ _ _ (below_some hb3 _ _ _ (below_some hb2 _ _ _ (below_some hb1 _ _ _ (cell_nu (by simp) rfl))))
  have e5 : w4.cell? ⟨w.heap.size + 1 + 1, 4, none⟩ = some (.int .i64 r.off) := below_some hb4 _ _ _ (below_some hb3 _ _ _ (below_some hb2 _ _ _ (below_some hb1 _ _ _ (cell_nu (by simp) rfl))))
  have e6 : w4.cell? ⟨w.heap.size + 1 + 1, 5, none⟩ = some (.int .i64 r.sh) := below_some hb4 _ _ _ (below_some hb3 _ _ _ (below_some hb2 _ _ _ (below_some hb1 _ _ _ (cell_nu (by simp) rfl))))
  have e7 : w4.cell? ⟨w.heap.size + 1 + 1, 6, none⟩ = some (.int .i64 r.fr) := below_some hb4 _ _ _ (below_some hb3 _ _ _ (below_some hb2 _ _ _ (below_some hb1 _ _ _ (cell_nu (by simp) rfl))))
  have e8 : w4.cell? ⟨w.heap.size + 1 + 1, 7, none⟩ = some (.int .i64 r.to) := below_some hb4 _ _ _ (below_some hb3 _ _ _ (below_some hb2 _ _ _ (below_some hb1 _ _ _ (cell_nu (by simp) rfl))))
  have hR := Lib.hid (hc.below hB4).r
  clear hW
  have HS : Hid (∀ W, Below w4.heap.size w4 W → (fun w' => Below w4.heap.size w4 w' ∧ w'.cell? ⟨w.heap.size + 1, 7, none⟩ = some (.slice c.A c.rs.length c.cR) ∧ w'.cell? ⟨w.heap.size + 1 + 1, 0, none⟩ = some (.int .i64 r.kd) ∧ w'.cell? ⟨w.heap.size + 1 + 1, 1, none⟩ = some (.int .i64 r.mo) ∧ w'.cell? ⟨w.heap.size + 1 + 1, 2, none⟩ = some (.int .i64 r.da) ∧ w'.cell? ⟨w.heap.size + 1 + 1, 3, none⟩ = some (.int .i64 r.kk) ∧ w'.cell? ⟨w.heap.size + 1 + 1, 4, none⟩ = some (.int .i64 r.off) ∧ w'.cell? ⟨w.heap.size + 1 + 1, 5, none⟩ = some (.int .i64 r.sh) ∧ w'.cell? ⟨w.heap.size + 1 + 1, 6, none⟩ = some (.int .i64 r.fr) ∧ w'.cell? ⟨w.heap.size + 1 + 1, 7, none⟩ = some (.int .i64 r.to)) W) := Lib.hid (fun W h => ⟨h, below_some h _ _ _ e0, below_some h _ _ _ e1, below_some h _ _ _ e2, below_some h _ _ _ e3, below_some h _ _ _ e4, below_some h _ _ _ e5, below_some h _ _ _ e6, below_some h _ _ _ e7, below_some h _ _ _ e8⟩)
  go_cut [] (fun wx => ∃ (A : Option Addr) (cR : Nat), wx.heap[w4.heap.size]? = some (.cells #[.bool c.o0, .bool c.o1, .bool c.o2, .bool c.o3, .bool c.o4, .bool c.o5, .bool c.o6, .slice A rs'.length cR, .slice c.D c.ds.length c.cD] 26 (0, 0)) ∧ RIn wx A rs' ∧ Below w4.heap.size w4 wx)
  case first =>
    have hRf : Below w4.heap.size w4 w4 := Below.refl _ _
    clear hB1 hB2 hB3 hB4 hb1 hb2 hb3 hb4 hc1 hf1 hc2 hf2 hc3 hf3 hc4 hf4 hL hN hc
    go_region_held3 (fun w' => Below w4.heap.size w4 w' ∧ w'.cell? ⟨w.heap.size + 1, 7, none⟩ = some (.slice c.A c.rs.length c.cR) ∧ w'.cell? ⟨w.heap.size + 1 + 1, 0, none⟩ = some (.int .i64 r.kd) ∧ w'.cell? ⟨w.heap.size + 1 + 1, 1, none⟩ = some (.int .i64 r.mo) ∧ w'.cell? ⟨w.heap.size + 1 + 1, 2, none⟩ = some (.int .i64 r.da) ∧ w'.cell? ⟨w.heap.size + 1 + 1, 3, none⟩ = some (.int .i64 r.kk) ∧ w'.cell? ⟨w.heap.size + 1 + 1, 4, none⟩ = some (.int .i64 r.off) ∧ w'.cell? ⟨w.heap.size + 1 + 1, 5, none⟩ = some (.int .i64 r.sh) ∧ w'.cell? ⟨w.heap.size + 1 + 1, 6, none⟩ = some (.int .i64 r.fr) ∧ w'.cell? ⟨w.heap.size + 1 + 1, 7, none⟩ = some (.int .i64 r.to)) ((refine HS.out _ ?_; repeat (first | (with_reducible assumption) | (with_reducible exact Below.refl _ _) | (with_reducible refine Below.drew ?_) | (with_reducible refine below_drewN' ?_ _) | (with_reducible refine below_al ?_) | ((with_reducible refine below_set ?_ ?_); rotate_left; focus (first | (simp; done) | (simp; omega)))))) (first | (rw [if_pos (by rfl)]; refine wpOper_app_in (.tmp 41) (.tmp 43) _ rfl w5.heap.size 68 i0 _ 8 64 Tryd.underlying23 hi0 hz0 hs0 hb0 (by rfl) (by decide) (.slice (some ⟨_, 0, none⟩) 0 0) 0 [] rfl (own_nil (by repeat (first | assumption | (with_reducible refine blk_dr ?_) | (refine blk_nu (by first | (simp; done) | omega | (simp; omega))) | (with_reducible refine blk_al ?_))) (by first | omega | (simp; done) | (simp; omega))) c.A c.rs.length c.cR (c.rs.flatMap R8.enc) rfl ((hR.out.below (by repeat (first | (with_reducible assumption) | (with_reducible exact Below.refl _ _) | (with_reducible refine Below.drew ?_) | (with_reducible refine below_drewN' ?_ _) | (with_reducible refine below_al ?_) | ((with_reducible refine below_set ?_ ?_); rotate_left; focus (first | (simp; done) | (simp; omega)))))).src) (flat_one _) (by unfold maxLen; omega) (by omega) (by first | omega | (simp; done) | (simp; omega)) ?_; intro v1 w6 hown0 hg1; have hown1 : w6.ownsRow w5.heap.size 68 8 v1 c.rs.length (c.rs.flatMap R8.enc) := (by simpa using hown0); clear hown0; obtain ⟨A1, c1, rfl⟩ := owns_any hown1; have hbq : Below w4.heap.size w4 w6 := Below.grown (by repeat (first | (with_reducible assumption) | (with_reducible exact Below.refl _ _) | (with_reducible refine Below.drew ?_) | (with_reducible refine below_drewN' ?_ _) | (with_reducible refine below_al ?_) | ((with_reducible refine below_set ?_ ?_); rotate_left; focus (first | (simp; done) | (simp; omega))))) hg1 (by first | omega | (simp; done) | (simp; omega)) (fun k hk => by cases hk; first | omega | (simp; done) | (simp; omega)); have hz6 := hg1.size; (try simp at hz6); have hblk6 : w6.heap[w4.heap.size]? = some (.cells #[.bool c.o0, .bool c.o1, .bool c.o2, .bool c.o3, .bool c.o4, .bool c.o5, .bool c.o6, .slice c.A c.rs.length c.cR, .slice c.D c.ds.length c.cD] 26 (0, 0)) := blk_gr hg1 (by simp [Value.ownBlock] <;> omega) (by repeat (first | assumption | (with_reducible refine blk_dr ?_) | (refine blk_nu (by first | (simp; done) | omega | (simp; omega))) | (with_reducible refine blk_al ?_)))) | (rw [if_pos (by rfl)]; refine wpOper_app_in (.tmp 44) (.tmp 46) _ rfl w5.heap.size 68 i0 _ 8 64 Tryd.underlying23 hi0 hz0 hs0 hb0 (by rfl) (by decide) (.slice A1 c.rs.length c1) c.rs.length (c.rs.flatMap R8.enc) rfl (own_of hown1 (fun k B h => by repeat (first | assumption | (with_reducible refine blk_dr ?_) | (with_reducible refine blk_al ?_)))) _ 1 1 r.enc rfl (src_blk (cs := r.enc.toArray) (by repeat (first | assumption | (with_reducible refine blk_dr ?_) | (refine blk_nu (by first | (simp; done) | omega | (simp; omega))) | (with_reducible refine blk_al ?_) | (refine blk_gr hg1 (by simp [Value.ownBlock] <;> omega) ?_))) rfl) (enc_one r) (by unfold maxLen; omega) (by omega) (by first | omega | (simp; done) | (simp; omega)) ?_; intro v2 w7 hown2 hg2; have hown3 : w7.ownsRow w5.heap.size 68 8 v2 (c.rs.length + 1) (rs'.flatMap R8.enc) := (by rw [← HRS.out, List.flatMap_append]; simpa using hown2); obtain ⟨A, cR, rfl, hr2⟩ := owns_rules hown3; have hbq2 : Below w4.heap.size w4 w7 := Below.grown (by repeat (first | (with_reducible assumption) | (with_reducible exact Below.refl _ _) | (with_reducible refine Below.drew ?_) | (with_reducible refine below_drewN' ?_ _) | (with_reducible refine below_al ?_) | ((with_reducible refine below_set ?_ ?_); rotate_left; focus (first | (simp; done) | (simp; omega))))) hg2 (by first | omega | (simp; done) | (simp; omega)) (fun k hk => by have := (hown1.lt k hk).1; omega); have hz7 := hg2.size; (try simp at hz7); have hblk7 : w7.heap[w4.heap.size]? = some (.cells #[.bool c.o0, .bool c.o1, .bool c.o2, .bool c.o3, .bool c.o4, .bool c.o5, .bool c.o6, .slice c.A c.rs.length c.cR, .slice c.D c.ds.length c.cD] 26 (0, 0)) := blk_gr hg2 (fun e => by have := (hown1.lt _ e).1; omega) (by repeat (first | assumption | (with_reducible refine blk_dr ?_) | (refine blk_nu (by first | (simp; done) | omega | (simp; omega))) | (with_reducible refine blk_al ?_))); have hc7 : w7.cell? ⟨w4.heap.size, 7, none⟩ = some (.slice c.A c.rs.length c.cR) := blk_cell hblk7 rfl; have hf7 : w7.frozen? ⟨w4.heap.size, 7, none⟩ = false := blk_free hblk7))
    all_goals (go_wp2_with fail; go_meet; exact ⟨A, cR, by have h := blk_set (i := 7) (u := .slice A rs'.length cR) hblk7; simpa using h, ((hr2.bt (owns_base hown3)).set (Or.inl (by omega))).to (by simp), below_set hbq2 (Nat.le_refl _)⟩)
  case rest =>
    obtain ⟨A, cR, hbk, hrA, hBx⟩ := hcut
    have hBc : Below w.heap.size w wc := hB4.trans (hBx.mono hB4.size)
    have hk0z : (0 : Int) ≤ (k : Int) := by omega
    have hk7z : (k : Int) < 7 := by omega
    have g0 := below_some hBx _ _ _ (show w4.cell? ⟨w.heap.size + 1, 0, none⟩ = some (.bool c.o0) from below_some hb4 _ _ _ (below_some hb3 _ _ _ (below_some hb2 _ _ _ (below_some hb1 _ _ _ (cell_al (cell_nu (by simp) rfl))))))
    have g1 := below_some hBx _ _ _ (show w4.cell? ⟨w.heap.size + 1, 1, none⟩ = some (.bool c.o1) from below_some hb4 _ _ _ (below_some hb3 _ _ _ (below_some hb2 _ _ _ (below_some hb1 _ _ _ (cell_al (cell_nu (by simp) rfl))))))
    have g2 := below_some hBx _ _ _ (show w4.cell? ⟨w.heap.size + 1, 2, none⟩ = some (.bool c.o2) from below_some hb4 _ _ _ (below_some hb3 _ _ _ (below_some hb2 _ _ _ (below_some hb1 _ _ _ (cell_al (cell_nu (by simp) rfl))))))
    have g3 := below_some hBx _ _ _ (show w4.cell? ⟨w.heap.size + 1, 3, none⟩ = some (.bool c.o3) from below_some hb4 _ _ _ (below_some hb3 _ _ _ (below_some hb2 _ _ _ (below_some hb1 _ _ _ (cell_al (cell_nu (by simp) rfl))))))
    have g4 := below_some hBx _ _ _ (show w4.cell? ⟨w.heap.size + 1, 4, none⟩ = some (.bool c.o4) from below_some hb4 _ _ _ (below_some hb3 _ _ _ (below_some hb2 _ _ _ (below_some hb1 _ _ _ (cell_al (cell_nu (by simp) rfl))))))
    have g5 := below_some hBx _ _ _ (show w4.cell? ⟨w.heap.size + 1, 5, none⟩ = some (.bool c.o5) from below_some hb4 _ _ _ (below_some hb3 _ _ _ (below_some hb2 _ _ _ (below_some hb1 _ _ _ (cell_al (cell_nu (by simp) rfl))))))
    have g6 := below_some hBx _ _ _ (show w4.cell? ⟨w.heap.size + 1, 6, none⟩ = some (.bool c.o6) from below_some hb4 _ _ _ (below_some hb3 _ _ _ (below_some hb2 _ _ _ (below_some hb1 _ _ _ (cell_al (cell_nu (by simp) rfl))))))
    have g7 := below_some hBx _ _ _ (show w4.cell? ⟨w.heap.size + 1, 7, none⟩ = some (.slice c.A c.rs.length c.cR) from below_some hb4 _ _ _ (below_some hb3 _ _ _ (below_some hb2 _ _ _ (below_some hb1 _ _ _ (cell_al (cell_nu (by simp) rfl))))))
    have g8 := below_some hBx _ _ _ (show w4.cell? ⟨w.heap.size + 1, 8, none⟩ = some (.slice c.D c.ds.length c.cD) from below_some hb4 _ _ _ (below_some hb3 _ _ _ (below_some hb2 _ _ _ (below_some hb1 _ _ _ (cell_al (cell_nu (by simp) rfl))))))
    have G0 := Lib.hid (below_some hBx _ _ _ e1)
    have G1 := Lib.hid (below_some hBx _ _ _ e2)
    have G2 := Lib.hid (below_some hBx _ _ _ e3)
    have G3 := Lib.hid (below_some hBx _ _ _ e4)
    have G4 := Lib.hid (below_some hBx _ _ _ e5)
    have G5 := Lib.hid (below_some hBx _ _ _ e6)
    have G6 := Lib.hid (below_some hBx _ _ _ e7)
    have G7 := Lib.hid (below_some hBx _ _ _ e8)
    clear e0 e1 e2 e3 e4 e5 e6 e7 e8 HS hblk hw5 hb5
    have HR := Lib.hid hrA; have HC := Lib.hid (hc.below hBc); have HL := Lib.hid (hL.below hBc); have HK := Lib.hid (CalP.ok hm); have HBK := Lib.hid hbk; clear hrA hbk
    clear hc hL hN hB1 hB2 hB3 hB4 hb1 hb2 hb3 hb4 hc1 hf1 hc2 hf2 hc3 hf3 hc4 hf4 hR
    try clear le_w_w1
    try clear lt_w_w1
    try clear le1_w_w1
    try clear lt1_w_w1
    try clear le2_w_w1
    try clear lt2_w_w1
    try clear le_w_w2
    try clear lt_w_w2
    try clear le1_w_w2
    try clear lt1_w_w2
    try clear le2_w_w2
    try clear lt2_w_w2
    try clear le_w_w3
    try clear lt_w_w3
    try clear le1_w_w3
    try clear lt1_w_w3
    try clear le2_w_w3
    try clear lt2_w_w3
    try clear le_w_w4
    try clear lt_w_w4
    try clear le1_w_w4
    try clear lt1_w_w4
    try clear le2_w_w4
    try clear lt2_w_w4
    try clear le_w1_w2
    try clear lt_w1_w2
    try clear le1_w1_w2
    try clear lt1_w1_w2
    try clear le2_w1_w2
    try clear lt2_w1_w2
    try clear le_w1_w3
    try clear lt_w1_w3
    try clear le1_w1_w3
    try clear lt1_w1_w3
    try clear le2_w1_w3
    try clear lt2_w1_w3
    try clear le_w1_w4
    try clear lt_w1_w4
    try clear le1_w1_w4
    try clear lt1_w1_w4
    try clear le2_w1_w4
    try clear lt2_w1_w4
    try clear le_w2_w3
    try clear lt_w2_w3
    try clear le1_w2_w3
    try clear lt1_w2_w3
    try clear le2_w2_w3
    try clear lt2_w2_w3
    try clear le_w2_w4
    try clear lt_w2_w4
    try clear le1_w2_w4
    try clear lt1_w2_w4
    try clear le2_w2_w4
    try clear lt2_w2_w4
    try clear le_w3_w4
    try clear lt_w3_w4
    try clear le1_w3_w4
    try clear lt1_w3_w4
    try clear le2_w3_w4
    try clear lt2_w3_w4
    have hck : (wc.alloc (.cells #[.bool c.o0, .bool c.o1, .bool c.o2, .bool c.o3, .bool c.o4, .bool c.o5, .bool c.o6, .slice c.A c.rs.length c.cR, .slice c.D c.ds.length c.cD] 26)).cell? ⟨wc.heap.size, k, none⟩ = some (.bool (c.off k)) := cell_nu rfl (off_at c k hk7)
    have hfk : (wc.alloc (.cells #[.bool c.o0, .bool c.o1, .bool c.o2, .bool c.o3, .bool c.o4, .bool c.o5, .bool c.o6, .slice c.A c.rs.length c.cR, .slice c.D c.ds.length c.cD] 26)).frozen? ⟨wc.heap.size, k, none⟩ = false := blk_free (blk_nu rfl)
    go_upto_region 13 with fail
    generalize hW8 : (wc.alloc _) = w8
    have hB8 : Below w.heap.size w w8 := by rw [← hW8]; exact below_al hBc
    have Fc0 : Hid (w8.cell? ⟨w.heap.size + 1, 0, none⟩ = some (.bool c.o0)) := Lib.hid (by rw [← hW8]; exact cell_al g0)
    have Fc1 : Hid (w8.cell? ⟨w.heap.size + 1, 1, none⟩ = some (.bool c.o1)) := Lib.hid (by rw [← hW8]; exact cell_al g1)
    have Fc2 : Hid (w8.cell? ⟨w.heap.size + 1, 2, none⟩ = some (.bool c.o2)) := Lib.hid (by rw [← hW8]; exact cell_al g2)
    have Fc3 : Hid (w8.cell? ⟨w.heap.size + 1, 3, none⟩ = some (.bool c.o3)) := Lib.hid (by rw [← hW8]; exact cell_al g3)
    have Fc4 : Hid (w8.cell? ⟨w.heap.size + 1, 4, none⟩ = some (.bool c.o4)) := Lib.hid (by rw [← hW8]; exact cell_al g4)
    have Fc5 : Hid (w8.cell? ⟨w.heap.size + 1, 5, none⟩ = some (.bool c.o5)) := Lib.hid (by rw [← hW8]; exact cell_al g5)
    have Fc6 : Hid (w8.cell? ⟨w.heap.size + 1, 6, none⟩ = some (.bool c.o6)) := Lib.hid (by rw [← hW8]; exact cell_al g6)
    have Fc7 : Hid (w8.cell? ⟨w.heap.size + 1, 7, none⟩ = some (.slice c.A c.rs.length c.cR)) := Lib.hid (by rw [← hW8]; exact cell_al g7)
    have Fc8 : Hid (w8.cell? ⟨w.heap.size + 1, 8, none⟩ = some (.slice c.D c.ds.length c.cD)) := Lib.hid (by rw [← hW8]; exact cell_al g8)
    have Fr0 : Hid (w8.cell? ⟨w.heap.size + 1 + 1, 0, none⟩ = some (.int .i64 r.kd)) := Lib.hid (by rw [← hW8]; exact cell_al G0.out)
    have Fr1 : Hid (w8.cell? ⟨w.heap.size + 1 + 1, 1, none⟩ = some (.int .i64 r.mo)) := Lib.hid (by rw [← hW8]; exact cell_al G1.out)
    have Fr2 : Hid (w8.cell? ⟨w.heap.size + 1 + 1, 2, none⟩ = some (.int .i64 r.da)) := Lib.hid (by rw [← hW8]; exact cell_al G2.out)
    have Fr3 : Hid (w8.cell? ⟨w.heap.size + 1 + 1, 3, none⟩ = some (.int .i64 r.kk)) := Lib.hid (by rw [← hW8]; exact cell_al G3.out)
    have Fr4 : Hid (w8.cell? ⟨w.heap.size + 1 + 1, 4, none⟩ = some (.int .i64 r.off)) := Lib.hid (by rw [← hW8]; exact cell_al G4.out)
    have Fr5 : Hid (w8.cell? ⟨w.heap.size + 1 + 1, 5, none⟩ = some (.int .i64 r.sh)) := Lib.hid (by rw [← hW8]; exact cell_al G5.out)
    have Fr6 : Hid (w8.cell? ⟨w.heap.size + 1 + 1, 6, none⟩ = some (.int .i64 r.fr)) := Lib.hid (by rw [← hW8]; exact cell_al G6.out)
    have Fr7 : Hid (w8.cell? ⟨w.heap.size + 1 + 1, 7, none⟩ = some (.int .i64 r.to)) := Lib.hid (by rw [← hW8]; exact cell_al G7.out)
    have Fa0 : Hid (w8.cell? ⟨w4.heap.size, 0, none⟩ = some (.bool c.o0)) := Lib.hid (by rw [← hW8]; exact cell_al (blk_cell HBK.out rfl))
    have Fa1 : Hid (w8.cell? ⟨w4.heap.size, 1, none⟩ = some (.bool c.o1)) := Lib.hid (by rw [← hW8]; exact cell_al (blk_cell HBK.out rfl))
    have Fa2 : Hid (w8.cell? ⟨w4.heap.size, 2, none⟩ = some (.bool c.o2)) := Lib.hid (by rw [← hW8]; exact cell_al (blk_cell HBK.out rfl))
    have Fa3 : Hid (w8.cell? ⟨w4.heap.size, 3, none⟩ = some (.bool c.o3)) := Lib.hid (by rw [← hW8]; exact cell_al (blk_cell HBK.out rfl))
    have Fa4 : Hid (w8.cell? ⟨w4.heap.size, 4, none⟩ = some (.bool c.o4)) := Lib.hid (by rw [← hW8]; exact cell_al (blk_cell HBK.out rfl))
    have Fa5 : Hid (w8.cell? ⟨w4.heap.size, 5, none⟩ = some (.bool c.o5)) := Lib.hid (by rw [← hW8]; exact cell_al (blk_cell HBK.out rfl))
    have Fa6 : Hid (w8.cell? ⟨w4.heap.size, 6, none⟩ = some (.bool c.o6)) := Lib.hid (by rw [← hW8]; exact cell_al (blk_cell HBK.out rfl))
    have Fa7 : Hid (w8.cell? ⟨w4.heap.size, 7, none⟩ = some (.slice A rs'.length cR)) := Lib.hid (by rw [← hW8]; exact cell_al (blk_cell HBK.out rfl))
    have Fa8 : Hid (w8.cell? ⟨w4.heap.size, 8, none⟩ = some (.slice c.D c.ds.length c.cD)) := Lib.hid (by rw [← hW8]; exact cell_al (blk_cell HBK.out rfl))
    have Fo0 : Hid (w8.cell? ⟨wc.heap.size, 0, none⟩ = some (.bool (k == 0 || c.o0))) := Lib.hid (by rw [← hW8]; exact cell_nu rfl (by rw [← List.setIfInBounds_toArray, set_off c k hk7]; rfl))
    have Fo1 : Hid (w8.cell? ⟨wc.heap.size, 1, none⟩ = some (.bool (k == 1 || c.o1))) := Lib.hid (by rw [← hW8]; exact cell_nu rfl (by rw [← List.setIfInBounds_toArray, set_off c k hk7]; rfl))
    have Fo2 : Hid (w8.cell? ⟨wc.heap.size, 2, none⟩ = some (.bool (k == 2 || c.o2))) := Lib.hid (by rw [← hW8]; exact cell_nu rfl (by rw [← List.setIfInBounds_toArray, set_off c k hk7]; rfl))
    have Fo3 : Hid (w8.cell? ⟨wc.heap.size, 3, none⟩ = some (.bool (k == 3 || c.o3))) := Lib.hid (by rw [← hW8]; exact cell_nu rfl (by rw [← List.setIfInBounds_toArray, set_off c k hk7]; rfl))
    have Fo4 : Hid (w8.cell? ⟨wc.heap.size, 4, none⟩ = some (.bool (k == 4 || c.o4))) := Lib.hid (by rw [← hW8]; exact cell_nu rfl (by rw [← List.setIfInBounds_toArray, set_off c k hk7]; rfl))
    have Fo5 : Hid (w8.cell? ⟨wc.heap.size, 5, none⟩ = some (.bool (k == 5 || c.o5))) := Lib.hid (by rw [← hW8]; exact cell_nu rfl (by rw [← List.setIfInBounds_toArray, set_off c k hk7]; rfl))
    have Fo6 : Hid (w8.cell? ⟨wc.heap.size, 6, none⟩ = some (.bool (k == 6 || c.o6))) := Lib.hid (by rw [← hW8]; exact cell_nu rfl (by rw [← List.setIfInBounds_toArray, set_off c k hk7]; rfl))
    have Fo7 : Hid (w8.cell? ⟨wc.heap.size, 7, none⟩ = some (.slice c.A c.rs.length c.cR)) := Lib.hid (by rw [← hW8]; exact cell_nu rfl (by rw [← List.setIfInBounds_toArray, set_off c k hk7]; rfl))
    have Fo8 : Hid (w8.cell? ⟨wc.heap.size, 8, none⟩ = some (.slice c.D c.ds.length c.cD)) := Lib.hid (by rw [← hW8]; exact cell_nu rfl (by rw [← List.setIfInBounds_toArray, set_off c k hk7]; rfl))
    have h8 : Below wc.heap.size wc w8 := by rw [← hW8]; exact below_al (Below.refl _ _)
    have IC := Lib.hid (HC.out.below h8); have IL := Lib.hid (HL.out.below h8); have IR := Lib.hid (HR.out.below h8)
    have IA : Hid (CalIn w8 (c.withR A cR rs')) := Lib.hid ⟨IR.out, IC.out.d⟩
    have IO : Hid (CalIn w8 (c.offK k)) := Lib.hid (offK_in k IC.out)
    have KA : Hid (CalOk (c.withR A cR rs')) := Lib.hid (CalP.ok (withR_may A cR hm (by rw [HLEN.out]; omega) (fun x hx => by rw [← HRS.out] at hx; rcases List.mem_append.1 hx with h | h; exact (CalP.may_iff.1 hm).2.2.2.1 x h; rw [List.mem_singleton.1 h]; exact hr)))
    have KO : Hid (CalOk (c.offK k)) := Lib.hid (offK_ok k HK.out)
    have eA : Hid ((c.withR A cR rs').is n = (true && !R)) := Lib.hid (by rw [← HRS.out, withR_more, eW.out, eR.out])
    have eO : Hid ((c.offK k).is n = (true && X)) := Lib.hid (by rw [offK_is c k n hk7, eW.out, hX])
    clear hW8 h8 hBx HC HL HR HBK g0 g1 g2 g3 g4 g5 g6 g7 g8 G0 G1 G2 G3 G4 G5 G6 G7 hck hfk hBc
    have h9 : Hid (Below w8.heap.size w8 w8) := Lib.hid (Below.refl _ _)
    have dc0 := below_some h9.out _ _ _ Fc0.out
    have dc1 := below_some h9.out _ _ _ Fc1.out
    have dc2 := below_some h9.out _ _ _ Fc2.out
    have dc3 := below_some h9.out _ _ _ Fc3.out
    have dc4 := below_some h9.out _ _ _ Fc4.out
    have dc5 := below_some h9.out _ _ _ Fc5.out
    have dc6 := below_some h9.out _ _ _ Fc6.out
    have dc7 := below_some h9.out _ _ _ Fc7.out
    have dc8 := below_some h9.out _ _ _ Fc8.out
    (try go_simp); (repeat (first | ((with_reducible refine wp_region_app ?_); simp only [List.cons_append, List.nil_append]) | go_values | go_skip | go_guarded | go_step | go_upon))
    refine (isV_c c n _ eW HK.out _ (IL.out.below (by have h9 := h9.out; repeat (first | (with_reducible assumption) | (with_reducible exact Below.refl _ _) | (with_reducible refine Below.drew ?_) | (with_reducible refine below_drewN' ?_ _) | (with_reducible refine below_al ?_) | ((with_reducible refine below_set ?_ ?_); rotate_left; focus (first | (simp; done) | (simp; omega)))))) (IC.out.below (by have h9 := h9.out; repeat (first | (with_reducible assumption) | (with_reducible exact Below.refl _ _) | (with_reducible refine Below.drew ?_) | (with_reducible refine below_drewN' ?_ _) | (with_reducible refine below_al ?_) | ((with_reducible refine below_set ?_ ?_); rotate_left; focus (first | (simp; done) | (simp; omega))))))).mono ?_; rintro e w9 ⟨rfl, hb⟩
    have h9' := Lib.hid (below_step (w := w8) hb (by have h9 := h9.out; repeat (first | (with_reducible assumption) | (with_reducible exact Below.refl _ _) | (with_reducible refine Below.drew ?_) | (with_reducible refine below_drewN' ?_ _) | (with_reducible refine below_al ?_) | ((with_reducible refine below_set ?_ ?_); rotate_left; focus (first | (simp; done) | (simp; omega)))))); clear h9; have h9 := h9'; clear h9' hb
    clear dc0 dc1 dc2 dc3 dc4 dc5 dc6 dc7 dc8
    have da0 := below_some h9.out _ _ _ Fa0.out
    have da1 := below_some h9.out _ _ _ Fa1.out
    have da2 := below_some h9.out _ _ _ Fa2.out
    have da3 := below_some h9.out _ _ _ Fa3.out
    have da4 := below_some h9.out _ _ _ Fa4.out
    have da5 := below_some h9.out _ _ _ Fa5.out
    have da6 := below_some h9.out _ _ _ Fa6.out
    have da7 := below_some h9.out _ _ _ Fa7.out
    have da8 := below_some h9.out _ _ _ Fa8.out
    (try go_simp); (repeat (first | ((with_reducible refine wp_region_app ?_); simp only [List.cons_append, List.nil_append]) | go_values | go_skip | go_guarded | go_step | go_upon))
    refine (isV_c (c.withR A cR rs') n _ eA KA.out _ (IL.out.below (by have h9 := h9.out; repeat (first | (with_reducible assumption) | (with_reducible exact Below.refl _ _) | (with_reducible refine Below.drew ?_) | (with_reducible refine below_drewN' ?_ _) | (with_reducible refine below_al ?_) | ((with_reducible refine below_set ?_ ?_); rotate_left; focus (first | (simp; done) | (simp; omega)))))) (IA.out.below (by have h9 := h9.out; repeat (first | (with_reducible assumption) | (with_reducible exact Below.refl _ _) | (with_reducible refine Below.drew ?_) | (with_reducible refine below_drewN' ?_ _) | (with_reducible refine below_al ?_) | ((with_reducible refine below_set ?_ ?_); rotate_left; focus (first | (simp; done) | (simp; omega))))))).mono ?_; rintro e w10 ⟨rfl, hb⟩
    have h9' := Lib.hid (below_step (w := w8) hb (by have h9 := h9.out; repeat (first | (with_reducible assumption) | (with_reducible exact Below.refl _ _) | (with_reducible refine Below.drew ?_) | (with_reducible refine below_drewN' ?_ _) | (with_reducible refine below_al ?_) | ((with_reducible refine below_set ?_ ?_); rotate_left; focus (first | (simp; done) | (simp; omega)))))); clear h9; have h9 := h9'; clear h9' hb
    clear da0 da1 da2 da3 da4 da5 da6 da7 da8
    have dr0 := below_some h9.out _ _ _ Fr0.out
    have dr1 := below_some h9.out _ _ _ Fr1.out
    have dr2 := below_some h9.out _ _ _ Fr2.out
    have dr3 := below_some h9.out _ _ _ Fr3.out
    have dr4 := below_some h9.out _ _ _ Fr4.out
    have dr5 := below_some h9.out _ _ _ Fr5.out
    have dr6 := below_some h9.out _ _ _ Fr6.out
    have dr7 := below_some h9.out _ _ _ Fr7.out
    (try go_simp); (repeat (first | ((with_reducible refine wp_region_app ?_); simp only [List.cons_append, List.nil_append]) | go_values | go_skip | go_guarded | go_step | go_upon))
    refine (risV_c r hr n _ eR _).mono ?_; rintro e w11 ⟨rfl, hb⟩
    have h9' := Lib.hid (below_step (w := w8) hb (by have h9 := h9.out; repeat (first | (with_reducible assumption) | (with_reducible exact Below.refl _ _) | (with_reducible refine Below.drew ?_) | (with_reducible refine below_drewN' ?_ _) | (with_reducible refine below_al ?_) | ((with_reducible refine below_set ?_ ?_); rotate_left; focus (first | (simp; done) | (simp; omega)))))); clear h9; have h9 := h9'; clear h9' hb
    clear dr0 dr1 dr2 dr3 dr4 dr5 dr6 dr7
    have do0 := below_some h9.out _ _ _ Fo0.out
    have do1 := below_some h9.out _ _ _ Fo1.out
    have do2 := below_some h9.out _ _ _ Fo2.out
    have do3 := below_some h9.out _ _ _ Fo3.out
    have do4 := below_some h9.out _ _ _ Fo4.out
    have do5 := below_some h9.out _ _ _ Fo5.out
    have do6 := below_some h9.out _ _ _ Fo6.out
    have do7 := below_some h9.out _ _ _ Fo7.out
    have do8 := below_some h9.out _ _ _ Fo8.out
    (try go_simp); (repeat (first | ((with_reducible refine wp_region_app ?_); simp only [List.cons_append, List.nil_append]) | go_values | go_skip | go_guarded | go_step | go_upon))
    refine (rmayV_c (c.offK k) _ eM _ (IO.out.below (by have h9 := h9.out; repeat (first | (with_reducible assumption) | (with_reducible exact Below.refl _ _) | (with_reducible refine Below.drew ?_) | (with_reducible refine below_drewN' ?_ _) | (with_reducible refine below_al ?_) | ((with_reducible refine below_set ?_ ?_); rotate_left; focus (first | (simp; done) | (simp; omega))))))).mono ?_; rintro e w12 ⟨rfl, hb⟩
    have h9' := Lib.hid (below_step (w := w8) hb (by have h9 := h9.out; repeat (first | (with_reducible assumption) | (with_reducible exact Below.refl _ _) | (with_reducible refine Below.drew ?_) | (with_reducible refine below_drewN' ?_ _) | (with_reducible refine below_al ?_) | ((with_reducible refine below_set ?_ ?_); rotate_left; focus (first | (simp; done) | (simp; omega)))))); clear h9; have h9 := h9'; clear h9' hb
    clear do0 do1 do2 do3 do4 do5 do6 do7 do8
    (try go_simp); (repeat (first | ((with_reducible refine wp_region_app ?_); simp only [List.cons_append, List.nil_append]) | go_values | go_skip | go_guarded | go_step | go_upon))
    go_ret
    exact ⟨rfl, hB8.trans (h9.out.mono hB8.size)⟩
set_option maxRecDepth 100000 in
set_option maxHeartbeats 8000000 in
theorem calRules_ft (c : CalP) (r : R8) (wk n : Int) (hf : c.few = true) (hm : c.may = true) (hr : r.may = true) (dn : dayB n = true) (k : Nat) (hk7 : k < 7) (z1 : IntKind.i64.wrap wk = wk) (hkk : wk.tmod 7 = (k : Int)) (R X : Bool) (eW : Hid (c.is n = false)) (eR : Hid (r.is n = R)) (hX : (Cal.wd n != (k : Int)) = X) (eM : Hid ((c.offK k).may = true)) (w : World) (hL : Laid w) (hN : AllOff w) (hc : CalIn w c) : Calls Tryd.prog 14 #[.agg #[.bool c.o0, .bool c.o1, .bool c.o2, .bool c.o3, .bool c.o4, .bool c.o5, .bool c.o6, .slice c.A c.rs.length c.cR, .slice c.D c.ds.length c.cD, .int .i64 r.kd, .int .i64 r.mo, .int .i64 r.da, .int .i64 r.kk, .int .i64 r.off, .int .i64 r.sh, .int .i64 r.fr, .int .i64 r.to, .int .u8 wk, .int .i64 n]] w fun e w' => e = .returned (.bool true) ∧ Below w.heap.size w w' := by
  obtain ⟨i0, hi0, hz0, hs0, hb0⟩ := info_parts infoR
  have fl := few_len hf
  have hB : Below w.heap.size w w := Below.refl _ _
  go_enter Tryd.func14, Tryd.ntmps14
  (try go_simp); (repeat (first | ((with_reducible refine wp_region_app ?_); simp only [List.cons_append, List.nil_append]) | go_values | go_skip | go_guarded | go_step | go_upon))
  refine (shown13_c _ (hL.below (by repeat (first | assumption | exact Below.refl _ _ | (with_reducible refine Below.drew ?_) | (with_reducible refine below_drewN' ?_ _) | (with_reducible refine below_al ?_) | ((with_reducible refine below_set ?_ ?_); rotate_left; focus (first | (simp; done) | (simp; omega)))))) (hN.below (by repeat (first | assumption | exact Below.refl _ _ | (with_reducible refine Below.drew ?_) | (with_reducible refine below_drewN' ?_ _) | (with_reducible refine below_al ?_) | ((with_reducible refine below_set ?_ ?_); rotate_left; focus (first | (simp; done) | (simp; omega))))))).mono ?_; rintro e w1 ⟨rfl, hb1⟩
  have hz1 := hb1.size; (try simp at hz1); obtain ⟨hc1, hf1⟩ := bcell hb1; have hB1 := below_step (w := w) hb1 (by repeat (first | assumption | exact Below.refl _ _ | (with_reducible refine Below.drew ?_) | (with_reducible refine below_drewN' ?_ _) | (with_reducible refine below_al ?_) | ((with_reducible refine below_set ?_ ?_); rotate_left; focus (first | (simp; done) | (simp; omega)))))
  have le_w_w1 : w.heap.size ≤ w1.heap.size := by omega
  try have lt_w_w1 : w.heap.size < w1.heap.size := by omega
  have le1_w_w1 : w.heap.size + 1 ≤ w1.heap.size := by omega
  try have lt1_w_w1 : w.heap.size + 1 < w1.heap.size := by omega
  have le2_w_w1 : w.heap.size + 2 ≤ w1.heap.size := by omega
  try have lt2_w_w1 : w.heap.size + 2 < w1.heap.size := by omega
  (try go_simp); (repeat (first | ((with_reducible refine wp_region_app ?_); simp only [List.cons_append, List.nil_append]) | go_values | go_skip | go_guarded | go_step | go_upon))
  refine (few_c c _).mono ?_; rintro e w2 ⟨rfl, hb2⟩
  have hz2 := hb2.size; (try simp at hz2); obtain ⟨hc2, hf2⟩ := bcell hb2; have hB2 := below_step (w := w) hb2 (by repeat (first | assumption | exact Below.refl _ _ | (with_reducible refine Below.drew ?_) | (with_reducible refine below_drewN' ?_ _) | (with_reducible refine below_al ?_) | ((with_reducible refine below_set ?_ ?_); rotate_left; focus (first | (simp; done) | (simp; omega)))))
  have le_w_w2 : w.heap.size ≤ w2.heap.size := by omega
  try have lt_w_w2 : w.heap.size < w2.heap.size := by omega
  have le1_w_w2 : w.heap.size + 1 ≤ w2.heap.size := by omega
  try have lt1_w_w2 : w.heap.size + 1 < w2.heap.size := by omega
  have le2_w_w2 : w.heap.size + 2 ≤ w2.heap.size := by omega
  try have lt2_w_w2 : w.heap.size + 2 < w2.heap.size := by omega
  have le_w1_w2 : w1.heap.size ≤ w2.heap.size := by omega
  try have lt_w1_w2 : w1.heap.size < w2.heap.size := by omega
  (try go_simp); (repeat (first | ((with_reducible refine wp_region_app ?_); simp only [List.cons_append, List.nil_append]) | go_values | go_skip | go_guarded | go_step | go_upon))
  refine (rcalMay_c c _ (hc.below (by repeat (first | assumption | exact Below.refl _ _ | (with_reducible refine Below.drew ?_) | (with_reducible refine below_drewN' ?_ _) | (with_reducible refine below_al ?_) | ((with_reducible refine below_set ?_ ?_); rotate_left; focus (first | (simp; done) | (simp; omega))))))).mono ?_; rintro e w3 ⟨rfl, hb3⟩
  have hz3 := hb3.size; (try simp at hz3); obtain ⟨hc3, hf3⟩ := bcell hb3; have hB3 := below_step (w := w) hb3 (by repeat (first | assumption | exact Below.refl _ _ | (with_reducible refine Below.drew ?_) | (with_reducible refine below_drewN' ?_ _) | (with_reducible refine below_al ?_) | ((with_reducible refine below_set ?_ ?_); rotate_left; focus (first | (simp; done) | (simp; omega)))))
  have le_w_w3 : w.heap.size ≤ w3.heap.size := by omega
  try have lt_w_w3 : w.heap.size < w3.heap.size := by omega
  have le1_w_w3 : w.heap.size + 1 ≤ w3.heap.size := by omega
  try have lt1_w_w3 : w.heap.size + 1 < w3.heap.size := by omega
  have le2_w_w3 : w.heap.size + 2 ≤ w3.heap.size := by omega
  try have lt2_w_w3 : w.heap.size + 2 < w3.heap.size := by omega
  have le_w1_w3 : w1.heap.size ≤ w3.heap.size := by omega
  try have lt_w1_w3 : w1.heap.size < w3.heap.size := by omega
  have le_w2_w3 : w2.heap.size ≤ w3.heap.size := by omega
  try have lt_w2_w3 : w2.heap.size < w3.heap.size := by omega
  (try go_simp); (repeat (first | ((with_reducible refine wp_region_app ?_); simp only [List.cons_append, List.nil_append]) | go_values | go_skip | go_guarded | go_step | go_upon))
  refine (rmayR_c r _).mono ?_; rintro e w4 ⟨rfl, hb4⟩
  have hz4 := hb4.size; (try simp at hz4); obtain ⟨hc4, hf4⟩ := bcell hb4; have hB4 := below_step (w := w) hb4 (by repeat (first | assumption | exact Below.refl _ _ | (with_reducible refine Below.drew ?_) | (with_reducible refine below_drewN' ?_ _) | (with_reducible refine below_al ?_) | ((with_reducible refine below_set ?_ ?_); rotate_left; focus (first | (simp; done) | (simp; omega)))))
  have le_w_w4 : w.heap.size ≤ w4.heap.size := by omega
  try have lt_w_w4 : w.heap.size < w4.heap.size := by omega
  have le1_w_w4 : w.heap.size + 1 ≤ w4.heap.size := by omega
  try have lt1_w_w4 : w.heap.size + 1 < w4.heap.size := by omega
  have le2_w_w4 : w.heap.size + 2 ≤ w4.heap.size := by omega
  try have lt2_w_w4 : w.heap.size + 2 < w4.heap.size := by omega
  have le_w1_w4 : w1.heap.size ≤ w4.heap.size := by omega
  try have lt_w1_w4 : w1.heap.size < w4.heap.size := by omega
  have le_w2_w4 : w2.heap.size ≤ w4.heap.size := by omega
  try have lt_w2_w4 : w2.heap.size < w4.heap.size := by omega
  have le_w3_w4 : w3.heap.size ≤ w4.heap.size := by omega
  try have lt_w3_w4 : w3.heap.size < w4.heap.size := by omega
  (try go_simp); (repeat (first | ((with_reducible refine wp_region_app ?_); simp only [List.cons_append, List.nil_append]) | go_values | go_skip | go_guarded | go_step | go_upon))
  refine (rday_c n _).mono ?_; rintro e w' ⟨rfl, rfl⟩
  (try go_simp); (repeat (first | ((with_reducible refine wp_region_app ?_); simp only [List.cons_append, List.nil_append]) | go_values | go_skip | go_guarded | go_step | go_upon))
  have hRS : ∃ rs', c.rs ++ [r] = rs' := ⟨_, rfl⟩
  obtain ⟨rs', hrs⟩ := hRS
  have HRS := Lib.hid hrs; clear hrs
  have hlen : rs'.length = c.rs.length + 1 := by rw [← HRS.out]; simp
  have HLEN := Lib.hid hlen; clear hlen
  generalize hW : (w4.alloc _) = w5
  have hblk : w5.heap[w4.heap.size]? = some (.cells #[.bool c.o0, .bool c.o1, .bool c.o2, .bool c.o3, .bool c.o4, .bool c.o5, .bool c.o6, .slice c.A c.rs.length c.cR, .slice c.D c.ds.length c.cD] 26 (0, 0)) := by rw [← hW]; exact blk_nu rfl
  have hw5 : w5.heap.size = w4.heap.size + 1 := by rw [← hW]; simp
  have hb5 : Below w4.heap.size w4 w5 := by rw [← hW]; exact below_al (Below.refl _ _)
  have e0 : w4.cell? ⟨w.heap.size + 1, 7, none⟩ = some (.slice c.A c.rs.length c.cR) := below_some hb4 _ _ _ (below_some hb3 _ _ _ (below_some hb2 _ _ _ (below_some hb1 _ _ _ (cell_al (cell_nu (by simp) rfl)))))
  have e1 : w4.cell? ⟨w.heap.size + 1 + 1, 0, none⟩ = some (.int .i64 r.kd) := below_some hb4 _ _ _ (below_some hb3 _ _ _ (below_some hb2 _ _ _ (below_some hb1 _ _ _ (cell_nu (by simp) rfl))))
  have e2 : w4.cell? ⟨w.heap.size + 1 + 1, 1, none⟩ = some (.int .i64 r.mo) := below_some hb4 _ _ _ (below_some hb3 _ _ _ (below_some hb2 _ _ _ (below_some hb1 _ _ _ (cell_nu (by simp) rfl))))
  have e3 : w4.cell? ⟨w.heap.size + 1 + 1, 2, none⟩ = some (.int .i64 r.da) := below_some hb4 _ _ _ (below_some hb3 _ _ _ (below_some hb2 _ _ _ (below_some hb1 _ _ _ (cell_nu (by simp) rfl))))
  have e4 : w4.cell? ⟨w.heap.size + 1 + 1, 3, none⟩ = some (.int .i64 r.kk) := below_some hb4 _ _ _ (below_some hb3 _ _ _ (below_some hb2 _ _ _ (below_some hb1 _ _ _ (cell_nu (by simp) rfl))))
  have e5 : w4.cell? ⟨w.heap.size + 1 + 1, 4, none⟩ = some (.int .i64 r.off) := below_some hb4 _ _ _ (below_some hb3 _ _ _ (below_some hb2 _ _ _ (below_some hb1 _ _ _ (cell_nu (by simp) rfl))))
  have e6 : w4.cell? ⟨w.heap.size + 1 + 1, 5, none⟩ = some (.int .i64 r.sh) := below_some hb4 _ _ _ (below_some hb3 _ _ _ (below_some hb2 _ _ _ (below_some hb1 _ _ _ (cell_nu (by simp) rfl))))
  have e7 : w4.cell? ⟨w.heap.size + 1 + 1, 6, none⟩ = some (.int .i64 r.fr) := below_some hb4 _ _ _ (below_some hb3 _ _ _ (below_some hb2 _ _ _ (below_some hb1 _ _ _ (cell_nu (by simp) rfl))))
  have e8 : w4.cell? ⟨w.heap.size + 1 + 1, 7, none⟩ = some (.int .i64 r.to) := below_some hb4 _ _ _ (below_some hb3 _ _ _ (below_some hb2 _ _ _ (below_some hb1 _ _ _ (cell_nu (by simp) rfl))))
  have hR := Lib.hid (hc.below hB4).r
  clear hW
  have HS : Hid (∀ W, Below w4.heap.size w4 W → (fun w' => Below w4.heap.size w4 w' ∧ w'.cell? ⟨w.heap.size + 1, 7, none⟩ = some (.slice c.A c.rs.length c.cR) ∧ w'.cell? ⟨w.heap.size + 1 + 1, 0, none⟩ = some (.int .i64 r.kd) ∧ w'.cell? ⟨w.heap.size + 1 + 1, 1, none⟩ = some (.int .i64 r.mo) ∧ w'.cell? ⟨w.heap.size + 1 + 1, 2, none⟩ = some (.int .i64 r.da) ∧ w'.cell? ⟨w.heap.size + 1 + 1, 3, none⟩ = some (.int .i64 r.kk) ∧ w'.cell? ⟨w.heap.size + 1 + 1, 4, none⟩ = some (.int .i64 r.off) ∧ w'.cell? ⟨w.heap.size + 1 + 1, 5, none⟩ = some (.int .i64 r.sh) ∧ w'.cell? ⟨w.heap.size + 1 + 1, 6, none⟩ = some (.int .i64 r.fr) ∧ w'.cell? ⟨w.heap.size + 1 + 1, 7, none⟩ = some (.int .i64 r.to)) W) := Lib.hid (fun W h => ⟨h, below_some h _ _ _ e0, below_some h _ _ _ e1, below_some h _ _ _ e2, below_some h _ _ _ e3, below_some h _ _ _ e4, below_some h _ _ _ e5, below_some h _ _ _ e6, below_some h _ _ _ e7, below_some h _ _ _ e8⟩)
  go_cut [] (fun wx => ∃ (A : Option Addr) (cR : Nat), wx.heap[w4.heap.size]? = some (.cells #[.bool c.o0, .bool c.o1, .bool c.o2, .bool c.o3, .bool c.o4, .bool c.o5, .bool c.o6, .slice A rs'.length cR, .slice c.D c.ds.length c.cD] 26 (0, 0)) ∧ RIn wx A rs' ∧ Below w4.heap.size w4 wx)
  case first =>
    have hRf : Below w4.heap.size w4 w4 := Below.refl _ _
    clear hB1 hB2 hB3 hB4 hb1 hb2 hb3 hb4 hc1 hf1 hc2 hf2 hc3 hf3 hc4 hf4 hL hN hc
    go_region_held3 (fun w' => Below w4.heap.size w4 w' ∧ w'.cell? ⟨w.heap.size + 1, 7, none⟩ = some (.slice c.A c.rs.length c.cR) ∧ w'.cell? ⟨w.heap.size + 1 + 1, 0, none⟩ = some (.int .i64 r.kd) ∧ w'.cell? ⟨w.heap.size + 1 + 1, 1, none⟩ = some (.int .i64 r.mo) ∧ w'.cell? ⟨w.heap.size + 1 + 1, 2, none⟩ = some (.int .i64 r.da) ∧ w'.cell? ⟨w.heap.size + 1 + 1, 3, none⟩ = some (.int .i64 r.kk) ∧ w'.cell? ⟨w.heap.size + 1 + 1, 4, none⟩ = some (.int .i64 r.off) ∧ w'.cell? ⟨w.heap.size + 1 + 1, 5, none⟩ = some (.int .i64 r.sh) ∧ w'.cell? ⟨w.heap.size + 1 + 1, 6, none⟩ = some (.int .i64 r.fr) ∧ w'.cell? ⟨w.heap.size + 1 + 1, 7, none⟩ = some (.int .i64 r.to)) ((refine HS.out _ ?_; repeat (first | (with_reducible assumption) | (with_reducible exact Below.refl _ _) | (with_reducible refine Below.drew ?_) | (with_reducible refine below_drewN' ?_ _) | (with_reducible refine below_al ?_) | ((with_reducible refine below_set ?_ ?_); rotate_left; focus (first | (simp; done) | (simp; omega)))))) (first | (rw [if_pos (by rfl)]; refine wpOper_app_in (.tmp 41) (.tmp 43) _ rfl w5.heap.size 68 i0 _ 8 64 Tryd.underlying23 hi0 hz0 hs0 hb0 (by rfl) (by decide) (.slice (some ⟨_, 0, none⟩) 0 0) 0 [] rfl (own_nil (by repeat (first | assumption | (with_reducible refine blk_dr ?_) | (refine blk_nu (by first | (simp; done) | omega | (simp; omega))) | (with_reducible refine blk_al ?_))) (by first | omega | (simp; done) | (simp; omega))) c.A c.rs.length c.cR (c.rs.flatMap R8.enc) rfl ((hR.out.below (by repeat (first | (with_reducible assumption) | (with_reducible exact Below.refl _ _) | (with_reducible refine Below.drew ?_) | (with_reducible refine below_drewN' ?_ _) | (with_reducible refine below_al ?_) | ((with_reducible refine below_set ?_ ?_); rotate_left; focus (first | (simp; done) | (simp; omega)))))).src) (flat_one _) (by unfold maxLen; omega) (by omega) (by first | omega | (simp; done) | (simp; omega)) ?_; intro v1 w6 hown0 hg1; have hown1 : w6.ownsRow w5.heap.size 68 8 v1 c.rs.length (c.rs.flatMap R8.enc) := (by simpa using hown0); clear hown0; obtain ⟨A1, c1, rfl⟩ := owns_any hown1; have hbq : Below w4.heap.size w4 w6 := Below.grown (by repeat (first | (with_reducible assumption) | (with_reducible exact Below.refl _ _) | (with_reducible refine Below.drew ?_) | (with_reducible refine below_drewN' ?_ _) | (with_reducible refine below_al ?_) | ((with_reducible refine below_set ?_ ?_); rotate_left; focus (first | (simp; done) | (simp; omega))))) hg1 (by first | omega | (simp; done) | (simp; omega)) (fun k hk => by cases hk; first | omega | (simp; done) | (simp; omega)); have hz6 := hg1.size; (try simp at hz6); have hblk6 : w6.heap[w4.heap.size]? = some (.cells #[.bool c.o0, .bool c.o1, .bool c.o2, .bool c.o3, .bool c.o4, .bool c.o5, .bool c.o6, .slice c.A c.rs.length c.cR, .slice c.D c.ds.length c.cD] 26 (0, 0)) := blk_gr hg1 (by simp [Value.ownBlock] <;> omega) (by repeat (first | assumption | (with_reducible refine blk_dr ?_) | (refine blk_nu (by first | (simp; done) | omega | (simp; omega))) | (with_reducible refine blk_al ?_)))) | (rw [if_pos (by rfl)]; refine wpOper_app_in (.tmp 44) (.tmp 46) _ rfl w5.heap.size 68 i0 _ 8 64 Tryd.underlying23 hi0 hz0 hs0 hb0 (by rfl) (by decide) (.slice A1 c.rs.length c1) c.rs.length (c.rs.flatMap R8.enc) rfl (own_of hown1 (fun k B h => by repeat (first | assumption | (with_reducible refine blk_dr ?_) | (with_reducible refine blk_al ?_)))) _ 1 1 r.enc rfl (src_blk (cs := r.enc.toArray) (by repeat (first | assumption | (with_reducible refine blk_dr ?_) | (refine blk_nu (by first | (simp; done) | omega | (simp; omega))) | (with_reducible refine blk_al ?_) | (refine blk_gr hg1 (by simp [Value.ownBlock] <;> omega) ?_))) rfl) (enc_one r) (by unfold maxLen; omega) (by omega) (by first | omega | (simp; done) | (simp; omega)) ?_; intro v2 w7 hown2 hg2; have hown3 : w7.ownsRow w5.heap.size 68 8 v2 (c.rs.length + 1) (rs'.flatMap R8.enc) := (by rw [← HRS.out, List.flatMap_append]; simpa using hown2); obtain ⟨A, cR, rfl, hr2⟩ := owns_rules hown3; have hbq2 : Below w4.heap.size w4 w7 := Below.grown (by repeat (first | (with_reducible assumption) | (with_reducible exact Below.refl _ _) | (with_reducible refine Below.drew ?_) | (with_reducible refine below_drewN' ?_ _) | (with_reducible refine below_al ?_) | ((with_reducible refine below_set ?_ ?_); rotate_left; focus (first | (simp; done) | (simp; omega))))) hg2 (by first | omega | (simp; done) | (simp; omega)) (fun k hk => by have := (hown1.lt k hk).1; omega); have hz7 := hg2.size; (try simp at hz7); have hblk7 : w7.heap[w4.heap.size]? = some (.cells #[.bool c.o0, .bool c.o1, .bool c.o2, .bool c.o3, .bool c.o4, .bool c.o5, .bool c.o6, .slice c.A c.rs.length c.cR, .slice c.D c.ds.length c.cD] 26 (0, 0)) := blk_gr hg2 (fun e => by have := (hown1.lt _ e).1; omega) (by repeat (first | assumption | (with_reducible refine blk_dr ?_) | (refine blk_nu (by first | (simp; done) | omega | (simp; omega))) | (with_reducible refine blk_al ?_))); have hc7 : w7.cell? ⟨w4.heap.size, 7, none⟩ = some (.slice c.A c.rs.length c.cR) := blk_cell hblk7 rfl; have hf7 : w7.frozen? ⟨w4.heap.size, 7, none⟩ = false := blk_free hblk7))
    all_goals (go_wp2_with fail; go_meet; exact ⟨A, cR, by have h := blk_set (i := 7) (u := .slice A rs'.length cR) hblk7; simpa using h, ((hr2.bt (owns_base hown3)).set (Or.inl (by omega))).to (by simp), below_set hbq2 (Nat.le_refl _)⟩)
  case rest =>
    obtain ⟨A, cR, hbk, hrA, hBx⟩ := hcut
    have hBc : Below w.heap.size w wc := hB4.trans (hBx.mono hB4.size)
    have hk0z : (0 : Int) ≤ (k : Int) := by omega
    have hk7z : (k : Int) < 7 := by omega
    have g0 := below_some hBx _ _ _ (show w4.cell? ⟨w.heap.size + 1, 0, none⟩ = some (.bool c.o0) from below_some hb4 _ _ _ (below_some hb3 _ _ _ (below_some hb2 _ _ _ (below_some hb1 _ _ _ (cell_al (cell_nu (by simp) rfl))))))
    have g1 := below_some hBx _ _ _ (show w4.cell? ⟨w.heap.size + 1, 1, none⟩ = some (.bool c.o1) from below_some hb4 _ _ _ (below_some hb3 _ _ _ (below_some hb2 _ _ _ (below_some hb1 _ _ _ (cell_al (cell_nu (by simp) rfl))))))
    have g2 := below_some hBx _ _ _ (show w4.cell? ⟨w.heap.size + 1, 2, none⟩ = some (.bool c.o2) from below_some hb4 _ _ _ (below_some hb3 _ _ _ (below_some hb2 _ _ _ (below_some hb1 _ _ _ (cell_al (cell_nu (by simp) rfl))))))
    have g3 := below_some hBx _ _ _ (show w4.cell? ⟨w.heap.size + 1, 3, none⟩ = some (.bool c.o3) from below_some hb4 _ _ _ (below_some hb3 _ _ _ (below_some hb2 _ _ _ (below_some hb1 _ _ _ (cell_al (cell_nu (by simp) rfl))))))
    have g4 := below_some hBx _ _ _ (show w4.cell? ⟨w.heap.size + 1, 4, none⟩ = some (.bool c.o4) from below_some hb4 _ _ _ (below_some hb3 _ _ _ (below_some hb2 _ _ _ (below_some hb1 _ _ _ (cell_al (cell_nu (by simp) rfl))))))
    have g5 := below_some hBx _ _ _ (show w4.cell? ⟨w.heap.size + 1, 5, none⟩ = some (.bool c.o5) from below_some hb4 _ _ _ (below_some hb3 _ _ _ (below_some hb2 _ _ _ (below_some hb1 _ _ _ (cell_al (cell_nu (by simp) rfl))))))
    have g6 := below_some hBx _ _ _ (show w4.cell? ⟨w.heap.size + 1, 6, none⟩ = some (.bool c.o6) from below_some hb4 _ _ _ (below_some hb3 _ _ _ (below_some hb2 _ _ _ (below_some hb1 _ _ _ (cell_al (cell_nu (by simp) rfl))))))
    have g7 := below_some hBx _ _ _ (show w4.cell? ⟨w.heap.size + 1, 7, none⟩ = some (.slice c.A c.rs.length c.cR) from below_some hb4 _ _ _ (below_some hb3 _ _ _ (below_some hb2 _ _ _ (below_some hb1 _ _ _ (cell_al (cell_nu (by simp) rfl))))))
    have g8 := below_some hBx _ _ _ (show w4.cell? ⟨w.heap.size + 1, 8, none⟩ = some (.slice c.D c.ds.length c.cD) from below_some hb4 _ _ _ (below_some hb3 _ _ _ (below_some hb2 _ _ _ (below_some hb1 _ _ _ (cell_al (cell_nu (by simp) rfl))))))
    have G0 := Lib.hid (below_some hBx _ _ _ e1)
    have G1 := Lib.hid (below_some hBx _ _ _ e2)
    have G2 := Lib.hid (below_some hBx _ _ _ e3)
    have G3 := Lib.hid (below_some hBx _ _ _ e4)
    have G4 := Lib.hid (below_some hBx _ _ _ e5)
    have G5 := Lib.hid (below_some hBx _ _ _ e6)
    have G6 := Lib.hid (below_some hBx _ _ _ e7)
    have G7 := Lib.hid (below_some hBx _ _ _ e8)
    clear e0 e1 e2 e3 e4 e5 e6 e7 e8 HS hblk hw5 hb5
    have HR := Lib.hid hrA; have HC := Lib.hid (hc.below hBc); have HL := Lib.hid (hL.below hBc); have HK := Lib.hid (CalP.ok hm); have HBK := Lib.hid hbk; clear hrA hbk
    clear hc hL hN hB1 hB2 hB3 hB4 hb1 hb2 hb3 hb4 hc1 hf1 hc2 hf2 hc3 hf3 hc4 hf4 hR
    try clear le_w_w1
    try clear lt_w_w1
    try clear le1_w_w1
    try clear lt1_w_w1
    try clear le2_w_w1
    try clear lt2_w_w1
    try clear le_w_w2
    try clear lt_w_w2
    try clear le1_w_w2
    try clear lt1_w_w2
    try clear le2_w_w2
    try clear lt2_w_w2
    try clear le_w_w3
    try clear lt_w_w3
    try clear le1_w_w3
    try clear lt1_w_w3
    try clear le2_w_w3
    try clear lt2_w_w3
    try clear le_w_w4
    try clear lt_w_w4
    try clear le1_w_w4
    try clear lt1_w_w4
    try clear le2_w_w4
    try clear lt2_w_w4
    try clear le_w1_w2
    try clear lt_w1_w2
    try clear le1_w1_w2
    try clear lt1_w1_w2
    try clear le2_w1_w2
    try clear lt2_w1_w2
    try clear le_w1_w3
    try clear lt_w1_w3
    try clear le1_w1_w3
    try clear lt1_w1_w3
    try clear le2_w1_w3
    try clear lt2_w1_w3
    try clear le_w1_w4
    try clear lt_w1_w4
    try clear le1_w1_w4
    try clear lt1_w1_w4
    try clear le2_w1_w4
    try clear lt2_w1_w4
    try clear le_w2_w3
    try clear lt_w2_w3
    try clear le1_w2_w3
    try clear lt1_w2_w3
    try clear le2_w2_w3
    try clear lt2_w2_w3
    try clear le_w2_w4
    try clear lt_w2_w4
    try clear le1_w2_w4
    try clear lt1_w2_w4
    try clear le2_w2_w4
    try clear lt2_w2_w4
    try clear le_w3_w4
    try clear lt_w3_w4
    try clear le1_w3_w4
    try clear lt1_w3_w4
    try clear le2_w3_w4
    try clear lt2_w3_w4
    have hck : (wc.alloc (.cells #[.bool c.o0, .bool c.o1, .bool c.o2, .bool c.o3, .bool c.o4, .bool c.o5, .bool c.o6, .slice c.A c.rs.length c.cR, .slice c.D c.ds.length c.cD] 26)).cell? ⟨wc.heap.size, k, none⟩ = some (.bool (c.off k)) := cell_nu rfl (off_at c k hk7)
    have hfk : (wc.alloc (.cells #[.bool c.o0, .bool c.o1, .bool c.o2, .bool c.o3, .bool c.o4, .bool c.o5, .bool c.o6, .slice c.A c.rs.length c.cR, .slice c.D c.ds.length c.cD] 26)).frozen? ⟨wc.heap.size, k, none⟩ = false := blk_free (blk_nu rfl)
    go_upto_region 13 with fail
    generalize hW8 : (wc.alloc _) = w8
    have hB8 : Below w.heap.size w w8 := by rw [← hW8]; exact below_al hBc
    have Fc0 : Hid (w8.cell? ⟨w.heap.size + 1, 0, none⟩ = some (.bool c.o0)) := Lib.hid (by rw [← hW8]; exact cell_al g0)
    have Fc1 : Hid (w8.cell? ⟨w.heap.size + 1, 1, none⟩ = some (.bool c.o1)) := Lib.hid (by rw [← hW8]; exact cell_al g1)
    have Fc2 : Hid (w8.cell? ⟨w.heap.size + 1, 2, none⟩ = some (.bool c.o2)) := Lib.hid (by rw [← hW8]; exact cell_al g2)
    have Fc3 : Hid (w8.cell? ⟨w.heap.size + 1, 3, none⟩ = some (.bool c.o3)) := Lib.hid (by rw [← hW8]; exact cell_al g3)
    have Fc4 : Hid (w8.cell? ⟨w.heap.size + 1, 4, none⟩ = some (.bool c.o4)) := Lib.hid (by rw [← hW8]; exact cell_al g4)
    have Fc5 : Hid (w8.cell? ⟨w.heap.size + 1, 5, none⟩ = some (.bool c.o5)) := Lib.hid (by rw [← hW8]; exact cell_al g5)
    have Fc6 : Hid (w8.cell? ⟨w.heap.size + 1, 6, none⟩ = some (.bool c.o6)) := Lib.hid (by rw [← hW8]; exact cell_al g6)
    have Fc7 : Hid (w8.cell? ⟨w.heap.size + 1, 7, none⟩ = some (.slice c.A c.rs.length c.cR)) := Lib.hid (by rw [← hW8]; exact cell_al g7)
    have Fc8 : Hid (w8.cell? ⟨w.heap.size + 1, 8, none⟩ = some (.slice c.D c.ds.length c.cD)) := Lib.hid (by rw [← hW8]; exact cell_al g8)
    have Fr0 : Hid (w8.cell? ⟨w.heap.size + 1 + 1, 0, none⟩ = some (.int .i64 r.kd)) := Lib.hid (by rw [← hW8]; exact cell_al G0.out)
    have Fr1 : Hid (w8.cell? ⟨w.heap.size + 1 + 1, 1, none⟩ = some (.int .i64 r.mo)) := Lib.hid (by rw [← hW8]; exact cell_al G1.out)
    have Fr2 : Hid (w8.cell? ⟨w.heap.size + 1 + 1, 2, none⟩ = some (.int .i64 r.da)) := Lib.hid (by rw [← hW8]; exact cell_al G2.out)
    have Fr3 : Hid (w8.cell? ⟨w.heap.size + 1 + 1, 3, none⟩ = some (.int .i64 r.kk)) := Lib.hid (by rw [← hW8]; exact cell_al G3.out)
    have Fr4 : Hid (w8.cell? ⟨w.heap.size + 1 + 1, 4, none⟩ = some (.int .i64 r.off)) := Lib.hid (by rw [← hW8]; exact cell_al G4.out)
    have Fr5 : Hid (w8.cell? ⟨w.heap.size + 1 + 1, 5, none⟩ = some (.int .i64 r.sh)) := Lib.hid (by rw [← hW8]; exact cell_al G5.out)
    have Fr6 : Hid (w8.cell? ⟨w.heap.size + 1 + 1, 6, none⟩ = some (.int .i64 r.fr)) := Lib.hid (by rw [← hW8]; exact cell_al G6.out)
    have Fr7 : Hid (w8.cell? ⟨w.heap.size + 1 + 1, 7, none⟩ = some (.int .i64 r.to)) := Lib.hid (by rw [← hW8]; exact cell_al G7.out)
    have Fa0 : Hid (w8.cell? ⟨w4.heap.size, 0, none⟩ = some (.bool c.o0)) := Lib.hid (by rw [← hW8]; exact cell_al (blk_cell HBK.out rfl))
    have Fa1 : Hid (w8.cell? ⟨w4.heap.size, 1, none⟩ = some (.bool c.o1)) := Lib.hid (by rw [← hW8]; exact cell_al (blk_cell HBK.out rfl))
    have Fa2 : Hid (w8.cell? ⟨w4.heap.size, 2, none⟩ = some (.bool c.o2)) := Lib.hid (by rw [← hW8]; exact cell_al (blk_cell HBK.out rfl))
    have Fa3 : Hid (w8.cell? ⟨w4.heap.size, 3, none⟩ = some (.bool c.o3)) := Lib.hid (by rw [← hW8]; exact cell_al (blk_cell HBK.out rfl))
    have Fa4 : Hid (w8.cell? ⟨w4.heap.size, 4, none⟩ = some (.bool c.o4)) := Lib.hid (by rw [← hW8]; exact cell_al (blk_cell HBK.out rfl))
    have Fa5 : Hid (w8.cell? ⟨w4.heap.size, 5, none⟩ = some (.bool c.o5)) := Lib.hid (by rw [← hW8]; exact cell_al (blk_cell HBK.out rfl))
    have Fa6 : Hid (w8.cell? ⟨w4.heap.size, 6, none⟩ = some (.bool c.o6)) := Lib.hid (by rw [← hW8]; exact cell_al (blk_cell HBK.out rfl))
    have Fa7 : Hid (w8.cell? ⟨w4.heap.size, 7, none⟩ = some (.slice A rs'.length cR)) := Lib.hid (by rw [← hW8]; exact cell_al (blk_cell HBK.out rfl))
    have Fa8 : Hid (w8.cell? ⟨w4.heap.size, 8, none⟩ = some (.slice c.D c.ds.length c.cD)) := Lib.hid (by rw [← hW8]; exact cell_al (blk_cell HBK.out rfl))
    have Fo0 : Hid (w8.cell? ⟨wc.heap.size, 0, none⟩ = some (.bool (k == 0 || c.o0))) := Lib.hid (by rw [← hW8]; exact cell_nu rfl (by rw [← List.setIfInBounds_toArray, set_off c k hk7]; rfl))
    have Fo1 : Hid (w8.cell? ⟨wc.heap.size, 1, none⟩ = some (.bool (k == 1 || c.o1))) := Lib.hid (by rw [← hW8]; exact cell_nu rfl (by rw [← List.setIfInBounds_toArray, set_off c k hk7]; rfl))
    have Fo2 : Hid (w8.cell? ⟨wc.heap.size, 2, none⟩ = some (.bool (k == 2 || c.o2))) := Lib.hid (by rw [← hW8]; exact cell_nu rfl (by rw [← List.setIfInBounds_toArray, set_off c k hk7]; rfl))
    have Fo3 : Hid (w8.cell? ⟨wc.heap.size, 3, none⟩ = some (.bool (k == 3 || c.o3))) := Lib.hid (by rw [← hW8]; exact cell_nu rfl (by rw [← List.setIfInBounds_toArray, set_off c k hk7]; rfl))
    have Fo4 : Hid (w8.cell? ⟨wc.heap.size, 4, none⟩ = some (.bool (k == 4 || c.o4))) := Lib.hid (by rw [← hW8]; exact cell_nu rfl (by rw [← List.setIfInBounds_toArray, set_off c k hk7]; rfl))
    have Fo5 : Hid (w8.cell? ⟨wc.heap.size, 5, none⟩ = some (.bool (k == 5 || c.o5))) := Lib.hid (by rw [← hW8]; exact cell_nu rfl (by rw [← List.setIfInBounds_toArray, set_off c k hk7]; rfl))
    have Fo6 : Hid (w8.cell? ⟨wc.heap.size, 6, none⟩ = some (.bool (k == 6 || c.o6))) := Lib.hid (by rw [← hW8]; exact cell_nu rfl (by rw [← List.setIfInBounds_toArray, set_off c k hk7]; rfl))
    have Fo7 : Hid (w8.cell? ⟨wc.heap.size, 7, none⟩ = some (.slice c.A c.rs.length c.cR)) := Lib.hid (by rw [← hW8]; exact cell_nu rfl (by rw [← List.setIfInBounds_toArray, set_off c k hk7]; rfl))
    have Fo8 : Hid (w8.cell? ⟨wc.heap.size, 8, none⟩ = some (.slice c.D c.ds.length c.cD)) := Lib.hid (by rw [← hW8]; exact cell_nu rfl (by rw [← List.setIfInBounds_toArray, set_off c k hk7]; rfl))
    have h8 : Below wc.heap.size wc w8 := by rw [← hW8]; exact below_al (Below.refl _ _)
    have IC := Lib.hid (HC.out.below h8); have IL := Lib.hid (HL.out.below h8); have IR := Lib.hid (HR.out.below h8)
    have IA : Hid (CalIn w8 (c.withR A cR rs')) := Lib.hid ⟨IR.out, IC.out.d⟩
    have IO : Hid (CalIn w8 (c.offK k)) := Lib.hid (offK_in k IC.out)
    have KA : Hid (CalOk (c.withR A cR rs')) := Lib.hid (CalP.ok (withR_may A cR hm (by rw [HLEN.out]; omega) (fun x hx => by rw [← HRS.out] at hx; rcases List.mem_append.1 hx with h | h; exact (CalP.may_iff.1 hm).2.2.2.1 x h; rw [List.mem_singleton.1 h]; exact hr)))
    have KO : Hid (CalOk (c.offK k)) := Lib.hid (offK_ok k HK.out)
    have eA : Hid ((c.withR A cR rs').is n = (false && !R)) := Lib.hid (by rw [← HRS.out, withR_more, eW.out, eR.out])
    have eO : Hid ((c.offK k).is n = (false && X)) := Lib.hid (by rw [offK_is c k n hk7, eW.out, hX])
    clear hW8 h8 hBx HC HL HR HBK g0 g1 g2 g3 g4 g5 g6 g7 g8 G0 G1 G2 G3 G4 G5 G6 G7 hck hfk hBc
    have h9 : Hid (Below w8.heap.size w8 w8) := Lib.hid (Below.refl _ _)
    have dc0 := below_some h9.out _ _ _ Fc0.out
    have dc1 := below_some h9.out _ _ _ Fc1.out
    have dc2 := below_some h9.out _ _ _ Fc2.out
    have dc3 := below_some h9.out _ _ _ Fc3.out
    have dc4 := below_some h9.out _ _ _ Fc4.out
    have dc5 := below_some h9.out _ _ _ Fc5.out
    have dc6 := below_some h9.out _ _ _ Fc6.out
    have dc7 := below_some h9.out _ _ _ Fc7.out
    have dc8 := below_some h9.out _ _ _ Fc8.out
    (try go_simp); (repeat (first | ((with_reducible refine wp_region_app ?_); simp only [List.cons_append, List.nil_append]) | go_values | go_skip | go_guarded | go_step | go_upon))
    refine (isV_c c n _ eW HK.out _ (IL.out.below (by have h9 := h9.out; repeat (first | (with_reducible assumption) | (with_reducible exact Below.refl _ _) | (with_reducible refine Below.drew ?_) | (with_reducible refine below_drewN' ?_ _) | (with_reducible refine below_al ?_) | ((with_reducible refine below_set ?_ ?_); rotate_left; focus (first | (simp; done) | (simp; omega)))))) (IC.out.below (by have h9 := h9.out; repeat (first | (with_reducible assumption) | (with_reducible exact Below.refl _ _) | (with_reducible refine Below.drew ?_) | (with_reducible refine below_drewN' ?_ _) | (with_reducible refine below_al ?_) | ((with_reducible refine below_set ?_ ?_); rotate_left; focus (first | (simp; done) | (simp; omega))))))).mono ?_; rintro e w9 ⟨rfl, hb⟩
    have h9' := Lib.hid (below_step (w := w8) hb (by have h9 := h9.out; repeat (first | (with_reducible assumption) | (with_reducible exact Below.refl _ _) | (with_reducible refine Below.drew ?_) | (with_reducible refine below_drewN' ?_ _) | (with_reducible refine below_al ?_) | ((with_reducible refine below_set ?_ ?_); rotate_left; focus (first | (simp; done) | (simp; omega)))))); clear h9; have h9 := h9'; clear h9' hb
    clear dc0 dc1 dc2 dc3 dc4 dc5 dc6 dc7 dc8
    have da0 := below_some h9.out _ _ _ Fa0.out
    have da1 := below_some h9.out _ _ _ Fa1.out
    have da2 := below_some h9.out _ _ _ Fa2.out
    have da3 := below_some h9.out _ _ _ Fa3.out
    have da4 := below_some h9.out _ _ _ Fa4.out
    have da5 := below_some h9.out _ _ _ Fa5.out
    have da6 := below_some h9.out _ _ _ Fa6.out
    have da7 := below_some h9.out _ _ _ Fa7.out
    have da8 := below_some h9.out _ _ _ Fa8.out
    (try go_simp); (repeat (first | ((with_reducible refine wp_region_app ?_); simp only [List.cons_append, List.nil_append]) | go_values | go_skip | go_guarded | go_step | go_upon))
    refine (isV_c (c.withR A cR rs') n _ eA KA.out _ (IL.out.below (by have h9 := h9.out; repeat (first | (with_reducible assumption) | (with_reducible exact Below.refl _ _) | (with_reducible refine Below.drew ?_) | (with_reducible refine below_drewN' ?_ _) | (with_reducible refine below_al ?_) | ((with_reducible refine below_set ?_ ?_); rotate_left; focus (first | (simp; done) | (simp; omega)))))) (IA.out.below (by have h9 := h9.out; repeat (first | (with_reducible assumption) | (with_reducible exact Below.refl _ _) | (with_reducible refine Below.drew ?_) | (with_reducible refine below_drewN' ?_ _) | (with_reducible refine below_al ?_) | ((with_reducible refine below_set ?_ ?_); rotate_left; focus (first | (simp; done) | (simp; omega))))))).mono ?_; rintro e w10 ⟨rfl, hb⟩
    have h9' := Lib.hid (below_step (w := w8) hb (by have h9 := h9.out; repeat (first | (with_reducible assumption) | (with_reducible exact Below.refl _ _) | (with_reducible refine Below.drew ?_) | (with_reducible refine below_drewN' ?_ _) | (with_reducible refine below_al ?_) | ((with_reducible refine below_set ?_ ?_); rotate_left; focus (first | (simp; done) | (simp; omega)))))); clear h9; have h9 := h9'; clear h9' hb
    clear da0 da1 da2 da3 da4 da5 da6 da7 da8
    have do0 := below_some h9.out _ _ _ Fo0.out
    have do1 := below_some h9.out _ _ _ Fo1.out
    have do2 := below_some h9.out _ _ _ Fo2.out
    have do3 := below_some h9.out _ _ _ Fo3.out
    have do4 := below_some h9.out _ _ _ Fo4.out
    have do5 := below_some h9.out _ _ _ Fo5.out
    have do6 := below_some h9.out _ _ _ Fo6.out
    have do7 := below_some h9.out _ _ _ Fo7.out
    have do8 := below_some h9.out _ _ _ Fo8.out
    (try go_simp); (repeat (first | ((with_reducible refine wp_region_app ?_); simp only [List.cons_append, List.nil_append]) | go_values | go_skip | go_guarded | go_step | go_upon))
    refine (rmayV_c (c.offK k) _ eM _ (IO.out.below (by have h9 := h9.out; repeat (first | (with_reducible assumption) | (with_reducible exact Below.refl _ _) | (with_reducible refine Below.drew ?_) | (with_reducible refine below_drewN' ?_ _) | (with_reducible refine below_al ?_) | ((with_reducible refine below_set ?_ ?_); rotate_left; focus (first | (simp; done) | (simp; omega))))))).mono ?_; rintro e w12 ⟨rfl, hb⟩
    have h9' := Lib.hid (below_step (w := w8) hb (by have h9 := h9.out; repeat (first | (with_reducible assumption) | (with_reducible exact Below.refl _ _) | (with_reducible refine Below.drew ?_) | (with_reducible refine below_drewN' ?_ _) | (with_reducible refine below_al ?_) | ((with_reducible refine below_set ?_ ?_); rotate_left; focus (first | (simp; done) | (simp; omega)))))); clear h9; have h9 := h9'; clear h9' hb
    clear do0 do1 do2 do3 do4 do5 do6 do7 do8
    have do0 := below_some h9.out _ _ _ Fo0.out
    have do1 := below_some h9.out _ _ _ Fo1.out
    have do2 := below_some h9.out _ _ _ Fo2.out
    have do3 := below_some h9.out _ _ _ Fo3.out
    have do4 := below_some h9.out _ _ _ Fo4.out
    have do5 := below_some h9.out _ _ _ Fo5.out
    have do6 := below_some h9.out _ _ _ Fo6.out
    have do7 := below_some h9.out _ _ _ Fo7.out
    have do8 := below_some h9.out _ _ _ Fo8.out
    (try go_simp); (repeat (first | ((with_reducible refine wp_region_app ?_); simp only [List.cons_append, List.nil_append]) | go_values | go_skip | go_guarded | go_step | go_upon))
    refine (isV_c (c.offK k) n _ eO KO.out _ (IL.out.below (by have h9 := h9.out; repeat (first | (with_reducible assumption) | (with_reducible exact Below.refl _ _) | (with_reducible refine Below.drew ?_) | (with_reducible refine below_drewN' ?_ _) | (with_reducible refine below_al ?_) | ((with_reducible refine below_set ?_ ?_); rotate_left; focus (first | (simp; done) | (simp; omega)))))) (IO.out.below (by have h9 := h9.out; repeat (first | (with_reducible assumption) | (with_reducible exact Below.refl _ _) | (with_reducible refine Below.drew ?_) | (with_reducible refine below_drewN' ?_ _) | (with_reducible refine below_al ?_) | ((with_reducible refine below_set ?_ ?_); rotate_left; focus (first | (simp; done) | (simp; omega))))))).mono ?_; rintro e w13 ⟨rfl, hb⟩
    have h9' := Lib.hid (below_step (w := w8) hb (by have h9 := h9.out; repeat (first | (with_reducible assumption) | (with_reducible exact Below.refl _ _) | (with_reducible refine Below.drew ?_) | (with_reducible refine below_drewN' ?_ _) | (with_reducible refine below_al ?_) | ((with_reducible refine below_set ?_ ?_); rotate_left; focus (first | (simp; done) | (simp; omega)))))); clear h9; have h9 := h9'; clear h9' hb
    clear do0 do1 do2 do3 do4 do5 do6 do7 do8
    (try go_simp); (repeat (first | ((with_reducible refine wp_region_app ?_); simp only [List.cons_append, List.nil_append]) | go_values | go_skip | go_guarded | go_step | go_upon))
    go_ret
    exact ⟨rfl, hB8.trans (h9.out.mono hB8.size)⟩
set_option maxRecDepth 100000 in
set_option maxHeartbeats 8000000 in
theorem calRules_ff (c : CalP) (r : R8) (wk n : Int) (hf : c.few = true) (hm : c.may = true) (hr : r.may = true) (dn : dayB n = true) (k : Nat) (hk7 : k < 7) (z1 : IntKind.i64.wrap wk = wk) (hkk : wk.tmod 7 = (k : Int)) (R X : Bool) (eW : Hid (c.is n = false)) (eR : Hid (r.is n = R)) (hX : (Cal.wd n != (k : Int)) = X) (eM : Hid ((c.offK k).may = false)) (w : World) (hL : Laid w) (hN : AllOff w) (hc : CalIn w c) : Calls Tryd.prog 14 #[.agg #[.bool c.o0, .bool c.o1, .bool c.o2, .bool c.o3, .bool c.o4, .bool c.o5, .bool c.o6, .slice c.A c.rs.length c.cR, .slice c.D c.ds.length c.cD, .int .i64 r.kd, .int .i64 r.mo, .int .i64 r.da, .int .i64 r.kk, .int .i64 r.off, .int .i64 r.sh, .int .i64 r.fr, .int .i64 r.to, .int .u8 wk, .int .i64 n]] w fun e w' => e = .returned (.bool true) ∧ Below w.heap.size w w' := by
  obtain ⟨i0, hi0, hz0, hs0, hb0⟩ := info_parts infoR
  have fl := few_len hf
  have hB : Below w.heap.size w w := Below.refl _ _
  go_enter Tryd.func14, Tryd.ntmps14
  (try go_simp); (repeat (first | ((with_reducible refine wp_region_app ?_); simp only [List.cons_append, List.nil_append]) | go_values | go_skip | go_guarded | go_step | go_upon))
  refine (shown13_c _ (hL.below (by repeat (first | assumption | exact Below.refl _ _ | (with_reducible refine Below.drew ?_) | (with_reducible refine below_drewN' ?_ _) | (with_reducible refine below_al ?_) | ((with_reducible refine below_set ?_ ?_); rotate_left; focus (first | (simp; done) | (simp; omega)))))) (hN.below (by repeat (first | assumption | exact Below.refl _ _ | (with_reducible refine Below.drew ?_) | (with_reducible refine below_drewN' ?_ _) | (with_reducible refine below_al ?_) | ((with_reducible refine below_set ?_ ?_); rotate_left; focus (first | (simp; done) | (simp; omega))))))).mono ?_; rintro e w1 ⟨rfl, hb1⟩
  have hz1 := hb1.size; (try simp at hz1); obtain ⟨hc1, hf1⟩ := bcell hb1; have hB1 := below_step (w := w) hb1 (by repeat (first | assumption | exact Below.refl _ _ | (with_reducible refine Below.drew ?_) | (with_reducible refine below_drewN' ?_ _) | (with_reducible refine below_al ?_) | ((with_reducible refine below_set ?_ ?_); rotate_left; focus (first | (simp; done) | (simp; omega)))))
  have le_w_w1 : w.heap.size ≤ w1.heap.size := by omega
  try have lt_w_w1 : w.heap.size < w1.heap.size := by omega
  have le1_w_w1 : w.heap.size + 1 ≤ w1.heap.size := by omega
  try have lt1_w_w1 : w.heap.size + 1 < w1.heap.size := by omega
  have le2_w_w1 : w.heap.size + 2 ≤ w1.heap.size := by omega
  try have lt2_w_w1 : w.heap.size + 2 < w1.heap.size := by omega
  (try go_simp); (repeat (first | ((with_reducible refine wp_region_app ?_); simp only [List.cons_append, List.nil_append]) | go_values | go_skip | go_guarded | go_step | go_upon))
  refine (few_c c _).mono ?_; rintro e w2 ⟨rfl, hb2⟩
  have hz2 := hb2.size; (try simp at hz2); obtain ⟨hc2, hf2⟩ := bcell hb2; have hB2 := below_step (w := w) hb2 (by repeat (first | assumption | exact Below.refl _ _ | (with_reducible refine Below.drew ?_) | (with_reducible refine below_drewN' ?_ _) | (with_reducible refine below_al ?_) | ((with_reducible refine below_set ?_ ?_); rotate_left; focus (first | (simp; done) | (simp; omega)))))
  have le_w_w2 : w.heap.size ≤ w2.heap.size := by omega
  try have lt_w_w2 : w.heap.size < w2.heap.size := by omega
  have le1_w_w2 : w.heap.size + 1 ≤ w2.heap.size := by omega
  try have lt1_w_w2 : w.heap.size + 1 < w2.heap.size := by omega
  have le2_w_w2 : w.heap.size + 2 ≤ w2.heap.size := by omega
  try have lt2_w_w2 : w.heap.size + 2 < w2.heap.size := by omega
  have le_w1_w2 : w1.heap.size ≤ w2.heap.size := by omega
  try have lt_w1_w2 : w1.heap.size < w2.heap.size := by omega
  (try go_simp); (repeat (first | ((with_reducible refine wp_region_app ?_); simp only [List.cons_append, List.nil_append]) | go_values | go_skip | go_guarded | go_step | go_upon))
  refine (rcalMay_c c _ (hc.below (by repeat (first | assumption | exact Below.refl _ _ | (with_reducible refine Below.drew ?_) | (with_reducible refine below_drewN' ?_ _) | (with_reducible refine below_al ?_) | ((with_reducible refine below_set ?_ ?_); rotate_left; focus (first | (simp; done) | (simp; omega))))))).mono ?_; rintro e w3 ⟨rfl, hb3⟩
  have hz3 := hb3.size; (try simp at hz3); obtain ⟨hc3, hf3⟩ := bcell hb3; have hB3 := below_step (w := w) hb3 (by repeat (first | assumption | exact Below.refl _ _ | (with_reducible refine Below.drew ?_) | (with_reducible refine below_drewN' ?_ _) | (with_reducible refine below_al ?_) | ((with_reducible refine below_set ?_ ?_); rotate_left; focus (first | (simp; done) | (simp; omega)))))
  have le_w_w3 : w.heap.size ≤ w3.heap.size := by omega
  try have lt_w_w3 : w.heap.size < w3.heap.size := by omega
  have le1_w_w3 : w.heap.size + 1 ≤ w3.heap.size := by omega
  try have lt1_w_w3 : w.heap.size + 1 < w3.heap.size := by omega
  have le2_w_w3 : w.heap.size + 2 ≤ w3.heap.size := by omega
  try have lt2_w_w3 : w.heap.size + 2 < w3.heap.size := by omega
  have le_w1_w3 : w1.heap.size ≤ w3.heap.size := by omega
  try have lt_w1_w3 : w1.heap.size < w3.heap.size := by omega
  have le_w2_w3 : w2.heap.size ≤ w3.heap.size := by omega
  try have lt_w2_w3 : w2.heap.size < w3.heap.size := by omega
  (try go_simp); (repeat (first | ((with_reducible refine wp_region_app ?_); simp only [List.cons_append, List.nil_append]) | go_values | go_skip | go_guarded | go_step | go_upon))
  refine (rmayR_c r _).mono ?_; rintro e w4 ⟨rfl, hb4⟩
  have hz4 := hb4.size; (try simp at hz4); obtain ⟨hc4, hf4⟩ := bcell hb4; have hB4 := below_step (w := w) hb4 (by repeat (first | assumption | exact Below.refl _ _ | (with_reducible refine Below.drew ?_) | (with_reducible refine below_drewN' ?_ _) | (with_reducible refine below_al ?_) | ((with_reducible refine below_set ?_ ?_); rotate_left; focus (first | (simp; done) | (simp; omega)))))
  have le_w_w4 : w.heap.size ≤ w4.heap.size := by omega
  try have lt_w_w4 : w.heap.size < w4.heap.size := by omega
  have le1_w_w4 : w.heap.size + 1 ≤ w4.heap.size := by omega
  try have lt1_w_w4 : w.heap.size + 1 < w4.heap.size := by omega
  have le2_w_w4 : w.heap.size + 2 ≤ w4.heap.size := by omega
  try have lt2_w_w4 : w.heap.size + 2 < w4.heap.size := by omega
  have le_w1_w4 : w1.heap.size ≤ w4.heap.size := by omega
  try have lt_w1_w4 : w1.heap.size < w4.heap.size := by omega
  have le_w2_w4 : w2.heap.size ≤ w4.heap.size := by omega
  try have lt_w2_w4 : w2.heap.size < w4.heap.size := by omega
  have le_w3_w4 : w3.heap.size ≤ w4.heap.size := by omega
  try have lt_w3_w4 : w3.heap.size < w4.heap.size := by omega
  (try go_simp); (repeat (first | ((with_reducible refine wp_region_app ?_); simp only [List.cons_append, List.nil_append]) | go_values | go_skip | go_guarded | go_step | go_upon))
  refine (rday_c n _).mono ?_; rintro e w' ⟨rfl, rfl⟩
  (try go_simp); (repeat (first | ((with_reducible refine wp_region_app ?_); simp only [List.cons_append, List.nil_append]) | go_values | go_skip | go_guarded | go_step | go_upon))
  have hRS : ∃ rs', c.rs ++ [r] = rs' := ⟨_, rfl⟩
  obtain ⟨rs', hrs⟩ := hRS
  have HRS := Lib.hid hrs; clear hrs
  have hlen : rs'.length = c.rs.length + 1 := by rw [← HRS.out]; simp
  have HLEN := Lib.hid hlen; clear hlen
  generalize hW : (w4.alloc _) = w5
  have hblk : w5.heap[w4.heap.size]? = some (.cells #[.bool c.o0, .bool c.o1, .bool c.o2, .bool c.o3, .bool c.o4, .bool c.o5, .bool c.o6, .slice c.A c.rs.length c.cR, .slice c.D c.ds.length c.cD] 26 (0, 0)) := by rw [← hW]; exact blk_nu rfl
  have hw5 : w5.heap.size = w4.heap.size + 1 := by rw [← hW]; simp
  have hb5 : Below w4.heap.size w4 w5 := by rw [← hW]; exact below_al (Below.refl _ _)
  have e0 : w4.cell? ⟨w.heap.size + 1, 7, none⟩ = some (.slice c.A c.rs.length c.cR) := below_some hb4 _ _ _ (below_some hb3 _ _ _ (below_some hb2 _ _ _ (below_some hb1 _ _ _ (cell_al (cell_nu (by simp) rfl)))))
  have e1 : w4.cell? ⟨w.heap.size + 1 + 1, 0, none⟩ = some (.int .i64 r.kd) := below_some hb4 _ _ _ (below_some hb3 _ _ _ (below_some hb2 _ _ _ (below_some hb1 _ _ _ (cell_nu (by simp) rfl))))
  have e2 : w4.cell? ⟨w.heap.size + 1 + 1, 1, none⟩ = some (.int .i64 r.mo) := below_some hb4 _ _ _ (below_some hb3 _ _ _ (below_some hb2 _ _ _ (below_some hb1 _ _ _ (cell_nu (by simp) rfl))))
  have e3 : w4.cell? ⟨w.heap.size + 1 + 1, 2, none⟩ = some (.int .i64 r.da) := below_some hb4 _ _ _ (below_some hb3 _ _ _ (below_some hb2 _ _ _ (below_some hb1 _ _ _ (cell_nu (by simp) rfl))))
  have e4 : w4.cell? ⟨w.heap.size + 1 + 1, 3, none⟩ = some (.int .i64 r.kk) := below_some hb4 _ _ _ (below_some hb3 _ _ _ (below_some hb2 _ _ _ (below_some hb1 _ _ _ (cell_nu (by simp) rfl))))
  have e5 : w4.cell? ⟨w.heap.size + 1 + 1, 4, none⟩ = some (.int .i64 r.off) := below_some hb4 _ _ _ (below_some hb3 _ _ _ (below_some hb2 _ _ _ (below_some hb1 _ _ _ (cell_nu (by simp) rfl))))
  have e6 : w4.cell? ⟨w.heap.size + 1 + 1, 5, none⟩ = some (.int .i64 r.sh) := below_some hb4 _ _ _ (below_some hb3 _ _ _ (below_some hb2 _ _ _ (below_some hb1 _ _ _ (cell_nu (by simp) rfl))))
  have e7 : w4.cell? ⟨w.heap.size + 1 + 1, 6, none⟩ = some (.int .i64 r.fr) := below_some hb4 _ _ _ (below_some hb3 _ _ _ (below_some hb2 _ _ _ (below_some hb1 _ _ _ (cell_nu (by simp) rfl))))
  have e8 : w4.cell? ⟨w.heap.size + 1 + 1, 7, none⟩ = some (.int .i64 r.to) := below_some hb4 _ _ _ (below_some hb3 _ _ _ (below_some hb2 _ _ _ (below_some hb1 _ _ _ (cell_nu (by simp) rfl))))
  have hR := Lib.hid (hc.below hB4).r
  clear hW
  have HS : Hid (∀ W, Below w4.heap.size w4 W → (fun w' => Below w4.heap.size w4 w' ∧ w'.cell? ⟨w.heap.size + 1, 7, none⟩ = some (.slice c.A c.rs.length c.cR) ∧ w'.cell? ⟨w.heap.size + 1 + 1, 0, none⟩ = some (.int .i64 r.kd) ∧ w'.cell? ⟨w.heap.size + 1 + 1, 1, none⟩ = some (.int .i64 r.mo) ∧ w'.cell? ⟨w.heap.size + 1 + 1, 2, none⟩ = some (.int .i64 r.da) ∧ w'.cell? ⟨w.heap.size + 1 + 1, 3, none⟩ = some (.int .i64 r.kk) ∧ w'.cell? ⟨w.heap.size + 1 + 1, 4, none⟩ = some (.int .i64 r.off) ∧ w'.cell? ⟨w.heap.size + 1 + 1, 5, none⟩ = some (.int .i64 r.sh) ∧ w'.cell? ⟨w.heap.size + 1 + 1, 6, none⟩ = some (.int .i64 r.fr) ∧ w'.cell? ⟨w.heap.size + 1 + 1, 7, none⟩ = some (.int .i64 r.to)) W) := Lib.hid (fun W h => ⟨h, below_some h _ _ _ e0, below_some h _ _ _ e1, below_some h _ _ _ e2, below_some h _ _ _ e3, below_some h _ _ _ e4, below_some h _ _ _ e5, below_some h _ _ _ e6, below_some h _ _ _ e7, below_some h _ _ _ e8⟩)
  go_cut [] (fun wx => ∃ (A : Option Addr) (cR : Nat), wx.heap[w4.heap.size]? = some (.cells #[.bool c.o0, .bool c.o1, .bool c.o2, .bool c.o3, .bool c.o4, .bool c.o5, .bool c.o6, .slice A rs'.length cR, .slice c.D c.ds.length c.cD] 26 (0, 0)) ∧ RIn wx A rs' ∧ Below w4.heap.size w4 wx)
  case first =>
    have hRf : Below w4.heap.size w4 w4 := Below.refl _ _
    clear hB1 hB2 hB3 hB4 hb1 hb2 hb3 hb4 hc1 hf1 hc2 hf2 hc3 hf3 hc4 hf4 hL hN hc
    go_region_held3 (fun w' => Below w4.heap.size w4 w' ∧ w'.cell? ⟨w.heap.size + 1, 7, none⟩ = some (.slice c.A c.rs.length c.cR) ∧ w'.cell? ⟨w.heap.size + 1 + 1, 0, none⟩ = some (.int .i64 r.kd) ∧ w'.cell? ⟨w.heap.size + 1 + 1, 1, none⟩ = some (.int .i64 r.mo) ∧ w'.cell? ⟨w.heap.size + 1 + 1, 2, none⟩ = some (.int .i64 r.da) ∧ w'.cell? ⟨w.heap.size + 1 + 1, 3, none⟩ = some (.int .i64 r.kk) ∧ w'.cell? ⟨w.heap.size + 1 + 1, 4, none⟩ = some (.int .i64 r.off) ∧ w'.cell? ⟨w.heap.size + 1 + 1, 5, none⟩ = some (.int .i64 r.sh) ∧ w'.cell? ⟨w.heap.size + 1 + 1, 6, none⟩ = some (.int .i64 r.fr) ∧ w'.cell? ⟨w.heap.size + 1 + 1, 7, none⟩ = some (.int .i64 r.to)) ((refine HS.out _ ?_; repeat (first | (with_reducible assumption) | (with_reducible exact Below.refl _ _) | (with_reducible refine Below.drew ?_) | (with_reducible refine below_drewN' ?_ _) | (with_reducible refine below_al ?_) | ((with_reducible refine below_set ?_ ?_); rotate_left; focus (first | (simp; done) | (simp; omega)))))) (first | (rw [if_pos (by rfl)]; refine wpOper_app_in (.tmp 41) (.tmp 43) _ rfl w5.heap.size 68 i0 _ 8 64 Tryd.underlying23 hi0 hz0 hs0 hb0 (by rfl) (by decide) (.slice (some ⟨_, 0, none⟩) 0 0) 0 [] rfl (own_nil (by repeat (first | assumption | (with_reducible refine blk_dr ?_) | (refine blk_nu (by first | (simp; done) | omega | (simp; omega))) | (with_reducible refine blk_al ?_))) (by first | omega | (simp; done) | (simp; omega))) c.A c.rs.length c.cR (c.rs.flatMap R8.enc) rfl ((hR.out.below (by repeat (first | (with_reducible assumption) | (with_reducible exact Below.refl _ _) | (with_reducible refine Below.drew ?_) | (with_reducible refine below_drewN' ?_ _) | (with_reducible refine below_al ?_) | ((with_reducible refine below_set ?_ ?_); rotate_left; focus (first | (simp; done) | (simp; omega)))))).src) (flat_one _) (by unfold maxLen; omega) (by omega) (by first | omega | (simp; done) | (simp; omega)) ?_; intro v1 w6 hown0 hg1; have hown1 : w6.ownsRow w5.heap.size 68 8 v1 c.rs.length (c.rs.flatMap R8.enc) := (by simpa using hown0); clear hown0; obtain ⟨A1, c1, rfl⟩ := owns_any hown1; have hbq : Below w4.heap.size w4 w6 := Below.grown (by repeat (first | (with_reducible assumption) | (with_reducible exact Below.refl _ _) | (with_reducible refine Below.drew ?_) | (with_reducible refine below_drewN' ?_ _) | (with_reducible refine below_al ?_) | ((with_reducible refine below_set ?_ ?_); rotate_left; focus (first | (simp; done) | (simp; omega))))) hg1 (by first | omega | (simp; done) | (simp; omega)) (fun k hk => by cases hk; first | omega | (simp; done) | (simp; omega)); have hz6 := hg1.size; (try simp at hz6); have hblk6 : w6.heap[w4.heap.size]? = some (.cells #[.bool c.o0, .bool c.o1, .bool c.o2, .bool c.o3, .bool c.o4, .bool c.o5, .bool c.o6, .slice c.A c.rs.length c.cR, .slice c.D c.ds.length c.cD] 26 (0, 0)) := blk_gr hg1 (by simp [Value.ownBlock] <;> omega) (by repeat (first | assumption | (with_reducible refine blk_dr ?_) | (refine blk_nu (by first | (simp; done) | omega | (simp; omega))) | (with_reducible refine blk_al ?_)))) | (rw [if_pos (by rfl)]; refine wpOper_app_in (.tmp 44) (.tmp 46) _ rfl w5.heap.size 68 i0 _ 8 64 Tryd.underlying23 hi0 hz0 hs0 hb0 (by rfl) (by decide) (.slice A1 c.rs.length c1) c.rs.length (c.rs.flatMap R8.enc) rfl (own_of hown1 (fun k B h => by repeat (first | assumption | (with_reducible refine blk_dr ?_) | (with_reducible refine blk_al ?_)))) _ 1 1 r.enc rfl (src_blk (cs := r.enc.toArray) (by repeat (first | assumption | (with_reducible refine blk_dr ?_) | (refine blk_nu (by first | (simp; done) | omega | (simp; omega))) | (with_reducible refine blk_al ?_) | (refine blk_gr hg1 (by simp [Value.ownBlock] <;> omega) ?_))) rfl) (enc_one r) (by unfold maxLen; omega) (by omega) (by first | omega | (simp; done) | (simp; omega)) ?_; intro v2 w7 hown2 hg2; have hown3 : w7.ownsRow w5.heap.size 68 8 v2 (c.rs.length + 1) (rs'.flatMap R8.enc) := (by rw [← HRS.out, List.flatMap_append]; simpa using hown2); obtain ⟨A, cR, rfl, hr2⟩ := owns_rules hown3; have hbq2 : Below w4.heap.size w4 w7 := Below.grown (by repeat (first | (with_reducible assumption) | (with_reducible exact Below.refl _ _) | (with_reducible refine Below.drew ?_) | (with_reducible refine below_drewN' ?_ _) | (with_reducible refine below_al ?_) | ((with_reducible refine below_set ?_ ?_); rotate_left; focus (first | (simp; done) | (simp; omega))))) hg2 (by first | omega | (simp; done) | (simp; omega)) (fun k hk => by have := (hown1.lt k hk).1; omega); have hz7 := hg2.size; (try simp at hz7); have hblk7 : w7.heap[w4.heap.size]? = some (.cells #[.bool c.o0, .bool c.o1, .bool c.o2, .bool c.o3, .bool c.o4, .bool c.o5, .bool c.o6, .slice c.A c.rs.length c.cR, .slice c.D c.ds.length c.cD] 26 (0, 0)) := blk_gr hg2 (fun e => by have := (hown1.lt _ e).1; omega) (by repeat (first | assumption | (with_reducible refine blk_dr ?_) | (refine blk_nu (by first | (simp; done) | omega | (simp; omega))) | (with_reducible refine blk_al ?_))); have hc7 : w7.cell? ⟨w4.heap.size, 7, none⟩ = some (.slice c.A c.rs.length c.cR) := blk_cell hblk7 rfl; have hf7 : w7.frozen? ⟨w4.heap.size, 7, none⟩ = false := blk_free hblk7))
    all_goals (go_wp2_with fail; go_meet; exact ⟨A, cR, by have h := blk_set (i := 7) (u := .slice A rs'.length cR) hblk7; simpa using h, ((hr2.bt (owns_base hown3)).set (Or.inl (by omega))).to (by simp), below_set hbq2 (Nat.le_refl _)⟩)
  case rest =>
    obtain ⟨A, cR, hbk, hrA, hBx⟩ := hcut
    have hBc : Below w.heap.size w wc := hB4.trans (hBx.mono hB4.size)
    have hk0z : (0 : Int) ≤ (k : Int) := by omega
    have hk7z : (k : Int) < 7 := by omega
    have g0 := below_some hBx _ _ _ (show w4.cell? ⟨w.heap.size + 1, 0, none⟩ = some (.bool c.o0) from below_some hb4 _ _ _ (below_some hb3 _ _ _ (below_some hb2 _ _ _ (below_some hb1 _ _ _ (cell_al (cell_nu (by simp) rfl))))))
    have g1 := below_some hBx _ _ _ (show w4.cell? ⟨w.heap.size + 1, 1, none⟩ = some (.bool c.o1) from below_some hb4 _ _ _ (below_some hb3 _ _ _ (below_some hb2 _ _ _ (below_some hb1 _ _ _ (cell_al (cell_nu (by simp) rfl))))))
    have g2 := below_some hBx _ _ _ (show w4.cell? ⟨w.heap.size + 1, 2, none⟩ = some (.bool c.o2) from below_some hb4 _ _ _ (below_some hb3 _ _ _ (below_some hb2 _ _ _ (below_some hb1 _ _ _ (cell_al (cell_nu (by simp) rfl))))))
    have g3 := below_some hBx _ _ _ (show w4.cell? ⟨w.heap.size + 1, 3, none⟩ = some (.bool c.o3) from below_some hb4 _ _ _ (below_some hb3 _ _ _ (below_some hb2 _ _ _ (below_some hb1 _ _ _ (cell_al (cell_nu (by simp) rfl))))))
    have g4 := below_some hBx _ _ _ (show w4.cell? ⟨w.heap.size + 1, 4, none⟩ = some (.bool c.o4) from below_some hb4 _ _ _ (below_some hb3 _ _ _ (below_some hb2 _ _ _ (below_some hb1 _ _ _ (cell_al (cell_nu (by simp) rfl))))))
    have g5 := below_some hBx _ _ _ (show w4.cell? ⟨w.heap.size + 1, 5, none⟩ = some (.bool c.o5) from below_some hb4 _ _ _ (below_some hb3 _ _ _ (below_some hb2 _ _ _ (below_some hb1 _ _ _ (cell_al (cell_nu (by simp) rfl))))))
    have g6 := below_some hBx _ _ _ (show w4.cell? ⟨w.heap.size + 1, 6, none⟩ = some (.bool c.o6) from below_some hb4 _ _ _ (below_some hb3 _ _ _ (below_some hb2 _ _ _ (below_some hb1 _ _ _ (cell_al (cell_nu (by simp) rfl))))))
    have g7 := below_some hBx _ _ _ (show w4.cell? ⟨w.heap.size + 1, 7, none⟩ = some (.slice c.A c.rs.length c.cR) from below_some hb4 _ _ _ (below_some hb3 _ _ _ (below_some hb2 _ _ _ (below_some hb1 _ _ _ (cell_al (cell_nu (by simp) rfl))))))
    have g8 := below_some hBx _ _ _ (show w4.cell? ⟨w.heap.size + 1, 8, none⟩ = some (.slice c.D c.ds.length c.cD) from below_some hb4 _ _ _ (below_some hb3 _ _ _ (below_some hb2 _ _ _ (below_some hb1 _ _ _ (cell_al (cell_nu (by simp) rfl))))))
    have G0 := Lib.hid (below_some hBx _ _ _ e1)
    have G1 := Lib.hid (below_some hBx _ _ _ e2)
    have G2 := Lib.hid (below_some hBx _ _ _ e3)
    have G3 := Lib.hid (below_some hBx _ _ _ e4)
    have G4 := Lib.hid (below_some hBx _ _ _ e5)
    have G5 := Lib.hid (below_some hBx _ _ _ e6)
    have G6 := Lib.hid (below_some hBx _ _ _ e7)
    have G7 := Lib.hid (below_some hBx _ _ _ e8)
    clear e0 e1 e2 e3 e4 e5 e6 e7 e8 HS hblk hw5 hb5
    have HR := Lib.hid hrA; have HC := Lib.hid (hc.below hBc); have HL := Lib.hid (hL.below hBc); have HK := Lib.hid (CalP.ok hm); have HBK := Lib.hid hbk; clear hrA hbk
    clear hc hL hN hB1 hB2 hB3 hB4 hb1 hb2 hb3 hb4 hc1 hf1 hc2 hf2 hc3 hf3 hc4 hf4 hR
    try clear le_w_w1
    try clear lt_w_w1
    try clear le1_w_w1
    try clear lt1_w_w1
    try clear le2_w_w1
    try clear lt2_w_w1
    try clear le_w_w2
    try clear lt_w_w2
    try clear le1_w_w2
    try clear lt1_w_w2
    try clear le2_w_w2
    try clear lt2_w_w2
    try clear le_w_w3
    try clear lt_w_w3
    try clear le1_w_w3
    try clear lt1_w_w3
    try clear le2_w_w3
    try clear lt2_w_w3
    try clear le_w_w4
    try clear lt_w_w4
    try clear le1_w_w4
    try clear lt1_w_w4
    try clear le2_w_w4
    try clear lt2_w_w4
    try clear le_w1_w2
    try clear lt_w1_w2
    try clear le1_w1_w2
    try clear lt1_w1_w2
    try clear le2_w1_w2
    try clear lt2_w1_w2
    try clear le_w1_w3
    try clear lt_w1_w3
    try clear le1_w1_w3
    try clear lt1_w1_w3
    try clear le2_w1_w3
    try clear lt2_w1_w3
    try clear le_w1_w4
    try clear lt_w1_w4
    try clear le1_w1_w4
    try clear lt1_w1_w4
    try clear le2_w1_w4
    try clear lt2_w1_w4
    try clear le_w2_w3
    try clear lt_w2_w3
    try clear le1_w2_w3
    try clear lt1_w2_w3
    try clear le2_w2_w3
    try clear lt2_w2_w3
    try clear le_w2_w4
    try clear lt_w2_w4
    try clear le1_w2_w4
    try clear lt1_w2_w4
    try clear le2_w2_w4
    try clear lt2_w2_w4
    try clear le_w3_w4
    try clear lt_w3_w4
    try clear le1_w3_w4
    try clear lt1_w3_w4
    try clear le2_w3_w4
    try clear lt2_w3_w4
    have hck : (wc.alloc (.cells #[.bool c.o0, .bool c.o1, .bool c.o2, .bool c.o3, .bool c.o4, .bool c.o5, .bool c.o6, .slice c.A c.rs.length c.cR, .slice c.D c.ds.length c.cD] 26)).cell? ⟨wc.heap.size, k, none⟩ = some (.bool (c.off k)) := cell_nu rfl (off_at c k hk7)
    have hfk : (wc.alloc (.cells #[.bool c.o0, .bool c.o1, .bool c.o2, .bool c.o3, .bool c.o4, .bool c.o5, .bool c.o6, .slice c.A c.rs.length c.cR, .slice c.D c.ds.length c.cD] 26)).frozen? ⟨wc.heap.size, k, none⟩ = false := blk_free (blk_nu rfl)
    go_upto_region 13 with fail
    generalize hW8 : (wc.alloc _) = w8
    have hB8 : Below w.heap.size w w8 := by rw [← hW8]; exact below_al hBc
    have Fc0 : Hid (w8.cell? ⟨w.heap.size + 1, 0, none⟩ = some (.bool c.o0)) := Lib.hid (by rw [← hW8]; exact cell_al g0)
    have Fc1 : Hid (w8.cell? ⟨w.heap.size + 1, 1, none⟩ = some (.bool c.o1)) := Lib.hid (by rw [← hW8]; exact cell_al g1)
    have Fc2 : Hid (w8.cell? ⟨w.heap.size + 1, 2, none⟩ = some (.bool c.o2)) := Lib.hid (by rw [← hW8]; exact cell_al g2)
    have Fc3 : Hid (w8.cell? ⟨w.heap.size + 1, 3, none⟩ = some (.bool c.o3)) := Lib.hid (by rw [← hW8]; exact cell_al g3)
    have Fc4 : Hid (w8.cell? ⟨w.heap.size + 1, 4, none⟩ = some (.bool c.o4)) := Lib.hid (by rw [← hW8]; exact cell_al g4)
    have Fc5 : Hid (w8.cell? ⟨w.heap.size + 1, 5, none⟩ = some (.bool c.o5)) := Lib.hid (by rw [← hW8]; exact cell_al g5)
    have Fc6 : Hid (w8.cell? ⟨w.heap.size + 1, 6, none⟩ = some (.bool c.o6)) := Lib.hid (by rw [← hW8]; exact cell_al g6)
    have Fc7 : Hid (w8.cell? ⟨w.heap.size + 1, 7, none⟩ = some (.slice c.A c.rs.length c.cR)) := Lib.hid (by rw [← hW8]; exact cell_al g7)
    have Fc8 : Hid (w8.cell? ⟨w.heap.size + 1, 8, none⟩ = some (.slice c.D c.ds.length c.cD)) := Lib.hid (by rw [← hW8]; exact cell_al g8)
    have Fr0 : Hid (w8.cell? ⟨w.heap.size + 1 + 1, 0, none⟩ = some (.int .i64 r.kd)) := Lib.hid (by rw [← hW8]; exact cell_al G0.out)
    have Fr1 : Hid (w8.cell? ⟨w.heap.size + 1 + 1, 1, none⟩ = some (.int .i64 r.mo)) := Lib.hid (by rw [← hW8]; exact cell_al G1.out)
    have Fr2 : Hid (w8.cell? ⟨w.heap.size + 1 + 1, 2, none⟩ = some (.int .i64 r.da)) := Lib.hid (by rw [← hW8]; exact cell_al G2.out)
    have Fr3 : Hid (w8.cell? ⟨w.heap.size + 1 + 1, 3, none⟩ = some (.int .i64 r.kk)) := Lib.hid (by rw [← hW8]; exact cell_al G3.out)
    have Fr4 : Hid (w8.cell? ⟨w.heap.size + 1 + 1, 4, none⟩ = some (.int .i64 r.off)) := Lib.hid (by rw [← hW8]; exact cell_al G4.out)
    have Fr5 : Hid (w8.cell? ⟨w.heap.size + 1 + 1, 5, none⟩ = some (.int .i64 r.sh)) := Lib.hid (by rw [← hW8]; exact cell_al G5.out)
    have Fr6 : Hid (w8.cell? ⟨w.heap.size + 1 + 1, 6, none⟩ = some (.int .i64 r.fr)) := Lib.hid (by rw [← hW8]; exact cell_al G6.out)
    have Fr7 : Hid (w8.cell? ⟨w.heap.size + 1 + 1, 7, none⟩ = some (.int .i64 r.to)) := Lib.hid (by rw [← hW8]; exact cell_al G7.out)
    have Fa0 : Hid (w8.cell? ⟨w4.heap.size, 0, none⟩ = some (.bool c.o0)) := Lib.hid (by rw [← hW8]; exact cell_al (blk_cell HBK.out rfl))
    have Fa1 : Hid (w8.cell? ⟨w4.heap.size, 1, none⟩ = some (.bool c.o1)) := Lib.hid (by rw [← hW8]; exact cell_al (blk_cell HBK.out rfl))
    have Fa2 : Hid (w8.cell? ⟨w4.heap.size, 2, none⟩ = some (.bool c.o2)) := Lib.hid (by rw [← hW8]; exact cell_al (blk_cell HBK.out rfl))
    have Fa3 : Hid (w8.cell? ⟨w4.heap.size, 3, none⟩ = some (.bool c.o3)) := Lib.hid (by rw [← hW8]; exact cell_al (blk_cell HBK.out rfl))
    have Fa4 : Hid (w8.cell? ⟨w4.heap.size, 4, none⟩ = some (.bool c.o4)) := Lib.hid (by rw [← hW8]; exact cell_al (blk_cell HBK.out rfl))
    have Fa5 : Hid (w8.cell? ⟨w4.heap.size, 5, none⟩ = some (.bool c.o5)) := Lib.hid (by rw [← hW8]; exact cell_al (blk_cell HBK.out rfl))
    have Fa6 : Hid (w8.cell? ⟨w4.heap.size, 6, none⟩ = some (.bool c.o6)) := Lib.hid (by rw [← hW8]; exact cell_al (blk_cell HBK.out rfl))
    have Fa7 : Hid (w8.cell? ⟨w4.heap.size, 7, none⟩ = some (.slice A rs'.length cR)) := Lib.hid (by rw [← hW8]; exact cell_al (blk_cell HBK.out rfl))
    have Fa8 : Hid (w8.cell? ⟨w4.heap.size, 8, none⟩ = some (.slice c.D c.ds.length c.cD)) := Lib.hid (by rw [← hW8]; exact cell_al (blk_cell HBK.out rfl))
    have Fo0 : Hid (w8.cell? ⟨wc.heap.size, 0, none⟩ = some (.bool (k == 0 || c.o0))) := Lib.hid (by rw [← hW8]; exact cell_nu rfl (by rw [← List.setIfInBounds_toArray, set_off c k hk7]; rfl))
    have Fo1 : Hid (w8.cell? ⟨wc.heap.size, 1, none⟩ = some (.bool (k == 1 || c.o1))) := Lib.hid (by rw [← hW8]; exact cell_nu rfl (by rw [← List.setIfInBounds_toArray, set_off c k hk7]; rfl))
    have Fo2 : Hid (w8.cell? ⟨wc.heap.size, 2, none⟩ = some (.bool (k == 2 || c.o2))) := Lib.hid (by rw [← hW8]; exact cell_nu rfl (by rw [← List.setIfInBounds_toArray, set_off c k hk7]; rfl))
    have Fo3 : Hid (w8.cell? ⟨wc.heap.size, 3, none⟩ = some (.bool (k == 3 || c.o3))) := Lib.hid (by rw [← hW8]; exact cell_nu rfl (by rw [← List.setIfInBounds_toArray, set_off c k hk7]; rfl))
    have Fo4 : Hid (w8.cell? ⟨wc.heap.size, 4, none⟩ = some (.bool (k == 4 || c.o4))) := Lib.hid (by rw [← hW8]; exact cell_nu rfl (by rw [← List.setIfInBounds_toArray, set_off c k hk7]; rfl))
    have Fo5 : Hid (w8.cell? ⟨wc.heap.size, 5, none⟩ = some (.bool (k == 5 || c.o5))) := Lib.hid (by rw [← hW8]; exact cell_nu rfl (by rw [← List.setIfInBounds_toArray, set_off c k hk7]; rfl))
    have Fo6 : Hid (w8.cell? ⟨wc.heap.size, 6, none⟩ = some (.bool (k == 6 || c.o6))) := Lib.hid (by rw [← hW8]; exact cell_nu rfl (by rw [← List.setIfInBounds_toArray, set_off c k hk7]; rfl))
    have Fo7 : Hid (w8.cell? ⟨wc.heap.size, 7, none⟩ = some (.slice c.A c.rs.length c.cR)) := Lib.hid (by rw [← hW8]; exact cell_nu rfl (by rw [← List.setIfInBounds_toArray, set_off c k hk7]; rfl))
    have Fo8 : Hid (w8.cell? ⟨wc.heap.size, 8, none⟩ = some (.slice c.D c.ds.length c.cD)) := Lib.hid (by rw [← hW8]; exact cell_nu rfl (by rw [← List.setIfInBounds_toArray, set_off c k hk7]; rfl))
    have h8 : Below wc.heap.size wc w8 := by rw [← hW8]; exact below_al (Below.refl _ _)
    have IC := Lib.hid (HC.out.below h8); have IL := Lib.hid (HL.out.below h8); have IR := Lib.hid (HR.out.below h8)
    have IA : Hid (CalIn w8 (c.withR A cR rs')) := Lib.hid ⟨IR.out, IC.out.d⟩
    have IO : Hid (CalIn w8 (c.offK k)) := Lib.hid (offK_in k IC.out)
    have KA : Hid (CalOk (c.withR A cR rs')) := Lib.hid (CalP.ok (withR_may A cR hm (by rw [HLEN.out]; omega) (fun x hx => by rw [← HRS.out] at hx; rcases List.mem_append.1 hx with h | h; exact (CalP.may_iff.1 hm).2.2.2.1 x h; rw [List.mem_singleton.1 h]; exact hr)))
    have KO : Hid (CalOk (c.offK k)) := Lib.hid (offK_ok k HK.out)
    have eA : Hid ((c.withR A cR rs').is n = (false && !R)) := Lib.hid (by rw [← HRS.out, withR_more, eW.out, eR.out])
    have eO : Hid ((c.offK k).is n = (false && X)) := Lib.hid (by rw [offK_is c k n hk7, eW.out, hX])
    clear hW8 h8 hBx HC HL HR HBK g0 g1 g2 g3 g4 g5 g6 g7 g8 G0 G1 G2 G3 G4 G5 G6 G7 hck hfk hBc
    have h9 : Hid (Below w8.heap.size w8 w8) := Lib.hid (Below.refl _ _)
    have dc0 := below_some h9.out _ _ _ Fc0.out
    have dc1 := below_some h9.out _ _ _ Fc1.out
    have dc2 := below_some h9.out _ _ _ Fc2.out
    have dc3 := below_some h9.out _ _ _ Fc3.out
    have dc4 := below_some h9.out _ _ _ Fc4.out
    have dc5 := below_some h9.out _ _ _ Fc5.out
    have dc6 := below_some h9.out _ _ _ Fc6.out
    have dc7 := below_some h9.out _ _ _ Fc7.out
    have dc8 := below_some h9.out _ _ _ Fc8.out
    (try go_simp); (repeat (first | ((with_reducible refine wp_region_app ?_); simp only [List.cons_append, List.nil_append]) | go_values | go_skip | go_guarded | go_step | go_upon))
    refine (isV_c c n _ eW HK.out _ (IL.out.below (by have h9 := h9.out; repeat (first | (with_reducible assumption) | (with_reducible exact Below.refl _ _) | (with_reducible refine Below.drew ?_) | (with_reducible refine below_drewN' ?_ _) | (with_reducible refine below_al ?_) | ((with_reducible refine below_set ?_ ?_); rotate_left; focus (first | (simp; done) | (simp; omega)))))) (IC.out.below (by have h9 := h9.out; repeat (first | (with_reducible assumption) | (with_reducible exact Below.refl _ _) | (with_reducible refine Below.drew ?_) | (with_reducible refine below_drewN' ?_ _) | (with_reducible refine below_al ?_) | ((with_reducible refine below_set ?_ ?_); rotate_left; focus (first | (simp; done) | (simp; omega))))))).mono ?_; rintro e w9 ⟨rfl, hb⟩
    have h9' := Lib.hid (below_step (w := w8) hb (by have h9 := h9.out; repeat (first | (with_reducible assumption) | (with_reducible exact Below.refl _ _) | (with_reducible refine Below.drew ?_) | (with_reducible refine below_drewN' ?_ _) | (with_reducible refine below_al ?_) | ((with_reducible refine below_set ?_ ?_); rotate_left; focus (first | (simp; done) | (simp; omega)))))); clear h9; have h9 := h9'; clear h9' hb
    clear dc0 dc1 dc2 dc3 dc4 dc5 dc6 dc7 dc8
    have da0 := below_some h9.out _ _ _ Fa0.out
    have da1 := below_some h9.out _ _ _ Fa1.out
    have da2 := below_some h9.out _ _ _ Fa2.out
    have da3 := below_some h9.out _ _ _ Fa3.out
    have da4 := below_some h9.out _ _ _ Fa4.out
    have da5 := below_some h9.out _ _ _ Fa5.out
    have da6 := below_some h9.out _ _ _ Fa6.out
    have da7 := below_some h9.out _ _ _ Fa7.out
    have da8 := below_some h9.out _ _ _ Fa8.out
    (try go_simp); (repeat (first | ((with_reducible refine wp_region_app ?_); simp only [List.cons_append, List.nil_append]) | go_values | go_skip | go_guarded | go_step | go_upon))
    refine (isV_c (c.withR A cR rs') n _ eA KA.out _ (IL.out.below (by have h9 := h9.out; repeat (first | (with_reducible assumption) | (with_reducible exact Below.refl _ _) | (with_reducible refine Below.drew ?_) | (with_reducible refine below_drewN' ?_ _) | (with_reducible refine below_al ?_) | ((with_reducible refine below_set ?_ ?_); rotate_left; focus (first | (simp; done) | (simp; omega)))))) (IA.out.below (by have h9 := h9.out; repeat (first | (with_reducible assumption) | (with_reducible exact Below.refl _ _) | (with_reducible refine Below.drew ?_) | (with_reducible refine below_drewN' ?_ _) | (with_reducible refine below_al ?_) | ((with_reducible refine below_set ?_ ?_); rotate_left; focus (first | (simp; done) | (simp; omega))))))).mono ?_; rintro e w10 ⟨rfl, hb⟩
    have h9' := Lib.hid (below_step (w := w8) hb (by have h9 := h9.out; repeat (first | (with_reducible assumption) | (with_reducible exact Below.refl _ _) | (with_reducible refine Below.drew ?_) | (with_reducible refine below_drewN' ?_ _) | (with_reducible refine below_al ?_) | ((with_reducible refine below_set ?_ ?_); rotate_left; focus (first | (simp; done) | (simp; omega)))))); clear h9; have h9 := h9'; clear h9' hb
    clear da0 da1 da2 da3 da4 da5 da6 da7 da8
    have do0 := below_some h9.out _ _ _ Fo0.out
    have do1 := below_some h9.out _ _ _ Fo1.out
    have do2 := below_some h9.out _ _ _ Fo2.out
    have do3 := below_some h9.out _ _ _ Fo3.out
    have do4 := below_some h9.out _ _ _ Fo4.out
    have do5 := below_some h9.out _ _ _ Fo5.out
    have do6 := below_some h9.out _ _ _ Fo6.out
    have do7 := below_some h9.out _ _ _ Fo7.out
    have do8 := below_some h9.out _ _ _ Fo8.out
    (try go_simp); (repeat (first | ((with_reducible refine wp_region_app ?_); simp only [List.cons_append, List.nil_append]) | go_values | go_skip | go_guarded | go_step | go_upon))
    refine (rmayV_c (c.offK k) _ eM _ (IO.out.below (by have h9 := h9.out; repeat (first | (with_reducible assumption) | (with_reducible exact Below.refl _ _) | (with_reducible refine Below.drew ?_) | (with_reducible refine below_drewN' ?_ _) | (with_reducible refine below_al ?_) | ((with_reducible refine below_set ?_ ?_); rotate_left; focus (first | (simp; done) | (simp; omega))))))).mono ?_; rintro e w12 ⟨rfl, hb⟩
    have h9' := Lib.hid (below_step (w := w8) hb (by have h9 := h9.out; repeat (first | (with_reducible assumption) | (with_reducible exact Below.refl _ _) | (with_reducible refine Below.drew ?_) | (with_reducible refine below_drewN' ?_ _) | (with_reducible refine below_al ?_) | ((with_reducible refine below_set ?_ ?_); rotate_left; focus (first | (simp; done) | (simp; omega)))))); clear h9; have h9 := h9'; clear h9' hb
    clear do0 do1 do2 do3 do4 do5 do6 do7 do8
    (try go_simp); (repeat (first | ((with_reducible refine wp_region_app ?_); simp only [List.cons_append, List.nil_append]) | go_values | go_skip | go_guarded | go_step | go_upon))
    go_ret
    exact ⟨rfl, hB8.trans (h9.out.mono hB8.size)⟩
theorem calRules_walk (c : CalP) (r : R8) (wk n : Int) (hw : 0 ≤ wk ∧ wk ≤ 255) (w : World) (hL : Laid w) (hN : AllOff w) (hc : CalIn w c) : Calls Tryd.prog 14 #[.agg #[.bool c.o0, .bool c.o1, .bool c.o2, .bool c.o3, .bool c.o4, .bool c.o5, .bool c.o6, .slice c.A c.rs.length c.cR, .slice c.D c.ds.length c.cD, .int .i64 r.kd, .int .i64 r.mo, .int .i64 r.da, .int .i64 r.kk, .int .i64 r.off, .int .i64 r.sh, .int .i64 r.fr, .int .i64 r.to, .int .u8 wk, .int .i64 n]] w fun e w' => e = .returned (.bool true) ∧ Below w.heap.size w w' := by
  cases hf : c.few
  · exact calRules_few c r wk n hf w hL hN hc
  cases hm : c.may
  · exact calRules_may c r wk n hf hm w hL hN hc
  cases hr : r.may
  · exact calRules_rule c r wk n hf hm hr w hL hN hc
  cases dn : dayB n
  · exact calRules_day c r wk n hf hm hr dn w hL hN hc
  obtain ⟨w1, w2⟩ := hw
  have z1 : IntKind.i64.wrap wk = wk := IntWalk.i64_in _ (by omega)
  obtain ⟨k, hk, kb⟩ : ∃ k : Nat, wk.tmod 7 = (k : Int) ∧ k < 7 := ⟨(wk % 7).toNat, by rw [Int.tmod_eq_emod_of_nonneg w1]; omega, by omega⟩
  cases eW : c.is n <;> cases eM : (c.offK k).may
  · exact calRules_ff c r wk n hf hm hr dn k kb z1 hk _ _ (Lib.hid eW) (Lib.hid rfl) rfl (Lib.hid eM) w hL hN hc
  · exact calRules_ft c r wk n hf hm hr dn k kb z1 hk _ _ (Lib.hid eW) (Lib.hid rfl) rfl (Lib.hid eM) w hL hN hc
  · exact calRules_tf c r wk n hf hm hr dn k kb z1 hk _ _ (Lib.hid eW) (Lib.hid rfl) rfl (Lib.hid eM) w hL hN hc
  · exact calRules_tt c r wk n hf hm hr dn k kb z1 hk _ _ (Lib.hid eW) (Lib.hid rfl) rfl (Lib.hid eM) w hL hN hc
end Go.Proofs.YtlilffoflkkbdaaDoor
