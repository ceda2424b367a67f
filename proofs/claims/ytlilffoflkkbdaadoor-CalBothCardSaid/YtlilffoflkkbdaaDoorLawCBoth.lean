/- The walk of CalBoth: the law returns true for every input. Conditions: the tables of months' lengths and of the week all of whose days are off lie as the program's text lays them. -/
import Derived.Test.YtlilffoflkkbdaaDoorCal0
import Derived.Test.YtlilffoflkkbdaaDoorUniB
namespace Go.Proofs.YtlilffoflkkbdaaDoor
open Go.RowKit
set_option linter.unusedVariables false
set_option maxRecDepth 100000 in
set_option maxHeartbeats 8000000 in
theorem calBoth_fa (a b : CalP) (n : Int) (fa : a.few = false) (w : World) (hL : Laid w) (hN : AllOff w) (ia : CalIn w a) (ib : CalIn w b) : Calls Tryd.prog 11 #[.agg #[.bool a.o0, .bool a.o1, .bool a.o2, .bool a.o3, .bool a.o4, .bool a.o5, .bool a.o6, .slice a.A a.rs.length a.cR, .slice a.D a.ds.length a.cD], .agg #[.bool b.o0, .bool b.o1, .bool b.o2, .bool b.o3, .bool b.o4, .bool b.o5, .bool b.o6, .slice b.A b.rs.length b.cR, .slice b.D b.ds.length b.cD], .int .i64 n] w fun e w' => e = .returned (.bool true) ∧ Below w.heap.size w w' := by
  have hB : Below w.heap.size w w := Below.refl _ _
  go_enter Tryd.func11, Tryd.ntmps11
  (try go_simp); (repeat (first | ((with_reducible refine wp_region_app ?_); simp only [List.cons_append, List.nil_append]) | go_values | go_skip | go_guarded | go_step | go_upon))
  refine (shown13_c _ (hL.below (by repeat (first | assumption | exact Below.refl _ _ | (with_reducible refine Below.drew ?_) | (with_reducible refine below_drewN' ?_ _) | (with_reducible refine below_al ?_) | ((with_reducible refine below_set ?_ ?_); rotate_left; focus (first | (simp; done) | (simp; omega)))))) (hN.below (by repeat (first | assumption | exact Below.refl _ _ | (with_reducible refine Below.drew ?_) | (with_reducible refine below_drewN' ?_ _) | (with_reducible refine below_al ?_) | ((with_reducible refine below_set ?_ ?_); rotate_left; focus (first | (simp; done) | (simp; omega))))))).mono ?_; rintro e w1 ⟨rfl, hb1⟩
  have hz1 := hb1.size; (try simp at hz1); obtain ⟨hc1, hf1⟩ := bcell hb1; have hB1 := below_step (w := w) hb1 (by repeat (first | assumption | exact Below.refl _ _ | (with_reducible refine Below.drew ?_) | (with_reducible refine below_drewN' ?_ _) | (with_reducible refine below_al ?_) | ((with_reducible refine below_set ?_ ?_); rotate_left; focus (first | (simp; done) | (simp; omega)))))
  have le_w_w1 : w.heap.size ≤ w1.heap.size := by omega
  try have lt_w_w1 : w.heap.size < w1.heap.size := by omega
  have le1_w_w1 : w.heap.size + 1 ≤ w1.heap.size := by omega
  try have lt1_w_w1 : w.heap.size + 1 < w1.heap.size := by omega
  (try go_simp); (repeat (first | ((with_reducible refine wp_region_app ?_); simp only [List.cons_append, List.nil_append]) | go_values | go_skip | go_guarded | go_step | go_upon))
  refine (few_c a _).mono ?_; rintro e w2 ⟨rfl, hb2⟩
  have hz2 := hb2.size; (try simp at hz2); obtain ⟨hc2, hf2⟩ := bcell hb2; have hB2 := below_step (w := w) hb2 (by repeat (first | assumption | exact Below.refl _ _ | (with_reducible refine Below.drew ?_) | (with_reducible refine below_drewN' ?_ _) | (with_reducible refine below_al ?_) | ((with_reducible refine below_set ?_ ?_); rotate_left; focus (first | (simp; done) | (simp; omega)))))
  have le_w_w2 : w.heap.size ≤ w2.heap.size := by omega
  try have lt_w_w2 : w.heap.size < w2.heap.size := by omega
  have le1_w_w2 : w.heap.size + 1 ≤ w2.heap.size := by omega
  try have lt1_w_w2 : w.heap.size + 1 < w2.heap.size := by omega
  have le_w1_w2 : w1.heap.size ≤ w2.heap.size := by omega
  try have lt_w1_w2 : w1.heap.size < w2.heap.size := by omega
  (try go_simp); (repeat (first | ((with_reducible refine wp_region_app ?_); simp only [List.cons_append, List.nil_append]) | go_values | go_skip | go_guarded | go_step | go_upon))
  go_ret
  exact ⟨rfl, by repeat (first | assumption | exact Below.refl _ _ | (with_reducible refine Below.drew ?_) | (with_reducible refine below_drewN' ?_ _) | (with_reducible refine below_al ?_) | ((with_reducible refine below_set ?_ ?_); rotate_left; focus (first | (simp; done) | (simp; omega))))⟩
set_option maxRecDepth 100000 in
set_option maxHeartbeats 8000000 in
theorem calBoth_fb (a b : CalP) (n : Int) (fa : a.few = true) (fb : b.few = false) (w : World) (hL : Laid w) (hN : AllOff w) (ia : CalIn w a) (ib : CalIn w b) : Calls Tryd.prog 11 #[.agg #[.bool a.o0, .bool a.o1, .bool a.o2, .bool a.o3, .bool a.o4, .bool a.o5, .bool a.o6, .slice a.A a.rs.length a.cR, .slice a.D a.ds.length a.cD], .agg #[.bool b.o0, .bool b.o1, .bool b.o2, .bool b.o3, .bool b.o4, .bool b.o5, .bool b.o6, .slice b.A b.rs.length b.cR, .slice b.D b.ds.length b.cD], .int .i64 n] w fun e w' => e = .returned (.bool true) ∧ Below w.heap.size w w' := by
  have hB : Below w.heap.size w w := Below.refl _ _
  go_enter Tryd.func11, Tryd.ntmps11
  (try go_simp); (repeat (first | ((with_reducible refine wp_region_app ?_); simp only [List.cons_append, List.nil_append]) | go_values | go_skip | go_guarded | go_step | go_upon))
  refine (shown13_c _ (hL.below (by repeat (first | assumption | exact Below.refl _ _ | (with_reducible refine Below.drew ?_) | (with_reducible refine below_drewN' ?_ _) | (with_reducible refine below_al ?_) | ((with_reducible refine below_set ?_ ?_); rotate_left; focus (first | (simp; done) | (simp; omega)))))) (hN.below (by repeat (first | assumption | exact Below.refl _ _ | (with_reducible refine Below.drew ?_) | (with_reducible refine below_drewN' ?_ _) | (with_reducible refine below_al ?_) | ((with_reducible refine below_set ?_ ?_); rotate_left; focus (first | (simp; done) | (simp; omega))))))).mono ?_; rintro e w1 ⟨rfl, hb1⟩
  have hz1 := hb1.size; (try simp at hz1); obtain ⟨hc1, hf1⟩ := bcell hb1; have hB1 := below_step (w := w) hb1 (by repeat (first | assumption | exact Below.refl _ _ | (with_reducible refine Below.drew ?_) | (with_reducible refine below_drewN' ?_ _) | (with_reducible refine below_al ?_) | ((with_reducible refine below_set ?_ ?_); rotate_left; focus (first | (simp; done) | (simp; omega)))))
  have le_w_w1 : w.heap.size ≤ w1.heap.size := by omega
  try have lt_w_w1 : w.heap.size < w1.heap.size := by omega
  have le1_w_w1 : w.heap.size + 1 ≤ w1.heap.size := by omega
  try have lt1_w_w1 : w.heap.size + 1 < w1.heap.size := by omega
  (try go_simp); (repeat (first | ((with_reducible refine wp_region_app ?_); simp only [List.cons_append, List.nil_append]) | go_values | go_skip | go_guarded | go_step | go_upon))
  refine (few_c a _).mono ?_; rintro e w2 ⟨rfl, hb2⟩
  have hz2 := hb2.size; (try simp at hz2); obtain ⟨hc2, hf2⟩ := bcell hb2; have hB2 := below_step (w := w) hb2 (by repeat (first | assumption | exact Below.refl _ _ | (with_reducible refine Below.drew ?_) | (with_reducible refine below_drewN' ?_ _) | (with_reducible refine below_al ?_) | ((with_reducible refine below_set ?_ ?_); rotate_left; focus (first | (simp; done) | (simp; omega)))))
  have le_w_w2 : w.heap.size ≤ w2.heap.size := by omega
  try have lt_w_w2 : w.heap.size < w2.heap.size := by omega
  have le1_w_w2 : w.heap.size + 1 ≤ w2.heap.size := by omega
  try have lt1_w_w2 : w.heap.size + 1 < w2.heap.size := by omega
  have le_w1_w2 : w1.heap.size ≤ w2.heap.size := by omega
  try have lt_w1_w2 : w1.heap.size < w2.heap.size := by omega
  (try go_simp); (repeat (first | ((with_reducible refine wp_region_app ?_); simp only [List.cons_append, List.nil_append]) | go_values | go_skip | go_guarded | go_step | go_upon))
  refine (few_c b _).mono ?_; rintro e w3 ⟨rfl, hb3⟩
  have hz3 := hb3.size; (try simp at hz3); obtain ⟨hc3, hf3⟩ := bcell hb3; have hB3 := below_step (w := w) hb3 (by repeat (first | assumption | exact Below.refl _ _ | (with_reducible refine Below.drew ?_) | (with_reducible refine below_drewN' ?_ _) | (with_reducible refine below_al ?_) | ((with_reducible refine below_set ?_ ?_); rotate_left; focus (first | (simp; done) | (simp; omega)))))
  have le_w_w3 : w.heap.size ≤ w3.heap.size := by omega
  try have lt_w_w3 : w.heap.size < w3.heap.size := by omega
  have le1_w_w3 : w.heap.size + 1 ≤ w3.heap.size := by omega
  try have lt1_w_w3 : w.heap.size + 1 < w3.heap.size := by omega
  have le_w1_w3 : w1.heap.size ≤ w3.heap.size := by omega
  try have lt_w1_w3 : w1.heap.size < w3.heap.size := by omega
  have le_w2_w3 : w2.heap.size ≤ w3.heap.size := by omega
  try have lt_w2_w3 : w2.heap.size < w3.heap.size := by omega
  (try go_simp); (repeat (first | ((with_reducible refine wp_region_app ?_); simp only [List.cons_append, List.nil_append]) | go_values | go_skip | go_guarded | go_step | go_upon))
  go_ret
  exact ⟨rfl, by repeat (first | assumption | exact Below.refl _ _ | (with_reducible refine Below.drew ?_) | (with_reducible refine below_drewN' ?_ _) | (with_reducible refine below_al ?_) | ((with_reducible refine below_set ?_ ?_); rotate_left; focus (first | (simp; done) | (simp; omega))))⟩
set_option maxRecDepth 100000 in
set_option maxHeartbeats 8000000 in
theorem calBoth_ma (a b : CalP) (n : Int) (fa : a.few = true) (fb : b.few = true) (ma : a.may = false) (w : World) (hL : Laid w) (hN : AllOff w) (ia : CalIn w a) (ib : CalIn w b) : Calls Tryd.prog 11 #[.agg #[.bool a.o0, .bool a.o1, .bool a.o2, .bool a.o3, .bool a.o4, .bool a.o5, .bool a.o6, .slice a.A a.rs.length a.cR, .slice a.D a.ds.length a.cD], .agg #[.bool b.o0, .bool b.o1, .bool b.o2, .bool b.o3, .bool b.o4, .bool b.o5, .bool b.o6, .slice b.A b.rs.length b.cR, .slice b.D b.ds.length b.cD], .int .i64 n] w fun e w' => e = .returned (.bool true) ∧ Below w.heap.size w w' := by
  have hB : Below w.heap.size w w := Below.refl _ _
  go_enter Tryd.func11, Tryd.ntmps11
  (try go_simp); (repeat (first | ((with_reducible refine wp_region_app ?_); simp only [List.cons_append, List.nil_append]) | go_values | go_skip | go_guarded | go_step | go_upon))
  refine (shown13_c _ (hL.below (by repeat (first | assumption | exact Below.refl _ _ | (with_reducible refine Below.drew ?_) | (with_reducible refine below_drewN' ?_ _) | (with_reducible refine below_al ?_) | ((with_reducible refine below_set ?_ ?_); rotate_left; focus (first | (simp; done) | (simp; omega)))))) (hN.below (by repeat (first | assumption | exact Below.refl _ _ | (with_reducible refine Below.drew ?_) | (with_reducible refine below_drewN' ?_ _) | (with_reducible refine below_al ?_) | ((with_reducible refine below_set ?_ ?_); rotate_left; focus (first | (simp; done) | (simp; omega))))))).mono ?_; rintro e w1 ⟨rfl, hb1⟩
  have hz1 := hb1.size; (try simp at hz1); obtain ⟨hc1, hf1⟩ := bcell hb1; have hB1 := below_step (w := w) hb1 (by repeat (first | assumption | exact Below.refl _ _ | (with_reducible refine Below.drew ?_) | (with_reducible refine below_drewN' ?_ _) | (with_reducible refine below_al ?_) | ((with_reducible refine below_set ?_ ?_); rotate_left; focus (first | (simp; done) | (simp; omega)))))
  have le_w_w1 : w.heap.size ≤ w1.heap.size := by omega
  try have lt_w_w1 : w.heap.size < w1.heap.size := by omega
  have le1_w_w1 : w.heap.size + 1 ≤ w1.heap.size := by omega
  try have lt1_w_w1 : w.heap.size + 1 < w1.heap.size := by omega
  (try go_simp); (repeat (first | ((with_reducible refine wp_region_app ?_); simp only [List.cons_append, List.nil_append]) | go_values | go_skip | go_guarded | go_step | go_upon))
  refine (few_c a _).mono ?_; rintro e w2 ⟨rfl, hb2⟩
  have hz2 := hb2.size; (try simp at hz2); obtain ⟨hc2, hf2⟩ := bcell hb2; have hB2 := below_step (w := w) hb2 (by repeat (first | assumption | exact Below.refl _ _ | (with_reducible refine Below.drew ?_) | (with_reducible refine below_drewN' ?_ _) | (with_reducible refine below_al ?_) | ((with_reducible refine below_set ?_ ?_); rotate_left; focus (first | (simp; done) | (simp; omega)))))
  have le_w_w2 : w.heap.size ≤ w2.heap.size := by omega
  try have lt_w_w2 : w.heap.size < w2.heap.size := by omega
  have le1_w_w2 : w.heap.size + 1 ≤ w2.heap.size := by omega
  try have lt1_w_w2 : w.heap.size + 1 < w2.heap.size := by omega
  have le_w1_w2 : w1.heap.size ≤ w2.heap.size := by omega
  try have lt_w1_w2 : w1.heap.size < w2.heap.size := by omega
  (try go_simp); (repeat (first | ((with_reducible refine wp_region_app ?_); simp only [List.cons_append, List.nil_append]) | go_values | go_skip | go_guarded | go_step | go_upon))
  refine (few_c b _).mono ?_; rintro e w3 ⟨rfl, hb3⟩
  have hz3 := hb3.size; (try simp at hz3); obtain ⟨hc3, hf3⟩ := bcell hb3; have hB3 := below_step (w := w) hb3 (by repeat (first | assumption | exact Below.refl _ _ | (with_reducible refine Below.drew ?_) | (with_reducible refine below_drewN' ?_ _) | (with_reducible refine below_al ?_) | ((with_reducible refine below_set ?_ ?_); rotate_left; focus (first | (simp; done) | (simp; omega)))))
  have le_w_w3 : w.heap.size ≤ w3.heap.size := by omega
  try have lt_w_w3 : w.heap.size < w3.heap.size := by omega
  have le1_w_w3 : w.heap.size + 1 ≤ w3.heap.size := by omega
  try have lt1_w_w3 : w.heap.size + 1 < w3.heap.size := by omega
  have le_w1_w3 : w1.heap.size ≤ w3.heap.size := by omega
  try have lt_w1_w3 : w1.heap.size < w3.heap.size := by omega
  have le_w2_w3 : w2.heap.size ≤ w3.heap.size := by omega
  try have lt_w2_w3 : w2.heap.size < w3.heap.size := by omega
  (try go_simp); (repeat (first | ((with_reducible refine wp_region_app ?_); simp only [List.cons_append, List.nil_append]) | go_values | go_skip | go_guarded | go_step | go_upon))
  refine (rcalMay_c a _ (ia.below (by repeat (first | assumption | exact Below.refl _ _ | (with_reducible refine Below.drew ?_) | (with_reducible refine below_drewN' ?_ _) | (with_reducible refine below_al ?_) | ((with_reducible refine below_set ?_ ?_); rotate_left; focus (first | (simp; done) | (simp; omega))))))).mono ?_; rintro e w4 ⟨rfl, hb4⟩
  have hz4 := hb4.size; (try simp at hz4); obtain ⟨hc4, hf4⟩ := bcell hb4; have hB4 := below_step (w := w) hb4 (by repeat (first | assumption | exact Below.refl _ _ | (with_reducible refine Below.drew ?_) | (with_reducible refine below_drewN' ?_ _) | (with_reducible refine below_al ?_) | ((with_reducible refine below_set ?_ ?_); rotate_left; focus (first | (simp; done) | (simp; omega)))))
  have le_w_w4 : w.heap.size ≤ w4.heap.size := by omega
  try have lt_w_w4 : w.heap.size < w4.heap.size := by omega
  have le1_w_w4 : w.heap.size + 1 ≤ w4.heap.size := by omega
  try have lt1_w_w4 : w.heap.size + 1 < w4.heap.size := by omega
  have le_w1_w4 : w1.heap.size ≤ w4.heap.size := by omega
  try have lt_w1_w4 : w1.heap.size < w4.heap.size := by omega
  have le_w2_w4 : w2.heap.size ≤ w4.heap.size := by omega
  try have lt_w2_w4 : w2.heap.size < w4.heap.size := by omega
  have le_w3_w4 : w3.heap.size ≤ w4.heap.size := by omega
  try have lt_w3_w4 : w3.heap.size < w4.heap.size := by omega
  (try go_simp); (repeat (first | ((with_reducible refine wp_region_app ?_); simp only [List.cons_append, List.nil_append]) | go_values | go_skip | go_guarded | go_step | go_upon))
  go_ret
  exact ⟨rfl, by repeat (first | assumption | exact Below.refl _ _ | (with_reducible refine Below.drew ?_) | (with_reducible refine below_drewN' ?_ _) | (with_reducible refine below_al ?_) | ((with_reducible refine below_set ?_ ?_); rotate_left; focus (first | (simp; done) | (simp; omega))))⟩
set_option maxRecDepth 100000 in
set_option maxHeartbeats 8000000 in
theorem calBoth_mb (a b : CalP) (n : Int) (fa : a.few = true) (fb : b.few = true) (ma : a.may = true) (mb : b.may = false) (w : World) (hL : Laid w) (hN : AllOff w) (ia : CalIn w a) (ib : CalIn w b) : Calls Tryd.prog 11 #[.agg #[.bool a.o0, .bool a.o1, .bool a.o2, .bool a.o3, .bool a.o4, .bool a.o5, .bool a.o6, .slice a.A a.rs.length a.cR, .slice a.D a.ds.length a.cD], .agg #[.bool b.o0, .bool b.o1, .bool b.o2, .bool b.o3, .bool b.o4, .bool b.o5, .bool b.o6, .slice b.A b.rs.length b.cR, .slice b.D b.ds.length b.cD], .int .i64 n] w fun e w' => e = .returned (.bool true) ∧ Below w.heap.size w w' := by
  have hB : Below w.heap.size w w := Below.refl _ _
  go_enter Tryd.func11, Tryd.ntmps11
  (try go_simp); (repeat (first | ((with_reducible refine wp_region_app ?_); simp only [List.cons_append, List.nil_append]) | go_values | go_skip | go_guarded | go_step | go_upon))
  refine (shown13_c _ (hL.below (by repeat (first | assumption | exact Below.refl _ _ | (with_reducible refine Below.drew ?_) | (with_reducible refine below_drewN' ?_ _) | (with_reducible refine below_al ?_) | ((with_reducible refine below_set ?_ ?_); rotate_left; focus (first | (simp; done) | (simp; omega)))))) (hN.below (by repeat (first | assumption | exact Below.refl _ _ | (with_reducible refine Below.drew ?_) | (with_reducible refine below_drewN' ?_ _) | (with_reducible refine below_al ?_) | ((with_reducible refine below_set ?_ ?_); rotate_left; focus (first | (simp; done) | (simp; omega))))))).mono ?_; rintro e w1 ⟨rfl, hb1⟩
  have hz1 := hb1.size; (try simp at hz1); obtain ⟨hc1, hf1⟩ := bcell hb1; have hB1 := below_step (w := w) hb1 (by repeat (first | assumption | exact Below.refl _ _ | (with_reducible refine Below.drew ?_) | (with_reducible refine below_drewN' ?_ _) | (with_reducible refine below_al ?_) | ((with_reducible refine below_set ?_ ?_); rotate_left; focus (first | (simp; done) | (simp; omega)))))
  have le_w_w1 : w.heap.size ≤ w1.heap.size := by omega
  try have lt_w_w1 : w.heap.size < w1.heap.size := by omega
  have le1_w_w1 : w.heap.size + 1 ≤ w1.heap.size := by omega
  try have lt1_w_w1 : w.heap.size + 1 < w1.heap.size := by omega
  (try go_simp); (repeat (first | ((with_reducible refine wp_region_app ?_); simp only [List.cons_append, List.nil_append]) | go_values | go_skip | go_guarded | go_step | go_upon))
  refine (few_c a _).mono ?_; rintro e w2 ⟨rfl, hb2⟩
  have hz2 := hb2.size; (try simp at hz2); obtain ⟨hc2, hf2⟩ := bcell hb2; have hB2 := below_step (w := w) hb2 (by repeat (first | assumption | exact Below.refl _ _ | (with_reducible refine Below.drew ?_) | (with_reducible refine below_drewN' ?_ _) | (with_reducible refine below_al ?_) | ((with_reducible refine below_set ?_ ?_); rotate_left; focus (first | (simp; done) | (simp; omega)))))
  have le_w_w2 : w.heap.size ≤ w2.heap.size := by omega
  try have lt_w_w2 : w.heap.size < w2.heap.size := by omega
  have le1_w_w2 : w.heap.size + 1 ≤ w2.heap.size := by omega
  try have lt1_w_w2 : w.heap.size + 1 < w2.heap.size := by omega
  have le_w1_w2 : w1.heap.size ≤ w2.heap.size := by omega
  try have lt_w1_w2 : w1.heap.size < w2.heap.size := by omega
  (try go_simp); (repeat (first | ((with_reducible refine wp_region_app ?_); simp only [List.cons_append, List.nil_append]) | go_values | go_skip | go_guarded | go_step | go_upon))
  refine (few_c b _).mono ?_; rintro e w3 ⟨rfl, hb3⟩
  have hz3 := hb3.size; (try simp at hz3); obtain ⟨hc3, hf3⟩ := bcell hb3; have hB3 := below_step (w := w) hb3 (by repeat (first | assumption | exact Below.refl _ _ | (with_reducible refine Below.drew ?_) | (with_reducible refine below_drewN' ?_ _) | (with_reducible refine below_al ?_) | ((with_reducible refine below_set ?_ ?_); rotate_left; focus (first | (simp; done) | (simp; omega)))))
  have le_w_w3 : w.heap.size ≤ w3.heap.size := by omega
  try have lt_w_w3 : w.heap.size < w3.heap.size := by omega
  have le1_w_w3 : w.heap.size + 1 ≤ w3.heap.size := by omega
  try have lt1_w_w3 : w.heap.size + 1 < w3.heap.size := by omega
  have le_w1_w3 : w1.heap.size ≤ w3.heap.size := by omega
  try have lt_w1_w3 : w1.heap.size < w3.heap.size := by omega
  have le_w2_w3 : w2.heap.size ≤ w3.heap.size := by omega
  try have lt_w2_w3 : w2.heap.size < w3.heap.size := by omega
  (try go_simp); (repeat (first | ((with_reducible refine wp_region_app ?_); simp only [List.cons_append, List.nil_append]) | go_values | go_skip | go_guarded | go_step | go_upon))
  refine (rcalMay_c a _ (ia.below (by repeat (first | assumption | exact Below.refl _ _ | (with_reducible refine Below.drew ?_) | (with_reducible refine below_drewN' ?_ _) | (with_reducible refine below_al ?_) | ((with_reducible refine below_set ?_ ?_); rotate_left; focus (first | (simp; done) | (simp; omega))))))).mono ?_; rintro e w4 ⟨rfl, hb4⟩
  have hz4 := hb4.size; (try simp at hz4); obtain ⟨hc4, hf4⟩ := bcell hb4; have hB4 := below_step (w := w) hb4 (by repeat (first | assumption | exact Below.refl _ _ | (with_reducible refine Below.drew ?_) | (with_reducible refine below_drewN' ?_ _) | (with_reducible refine below_al ?_) | ((with_reducible refine below_set ?_ ?_); rotate_left; focus (first | (simp; done) | (simp; omega)))))
  have le_w_w4 : w.heap.size ≤ w4.heap.size := by omega
  try have lt_w_w4 : w.heap.size < w4.heap.size := by omega
  have le1_w_w4 : w.heap.size + 1 ≤ w4.heap.size := by omega
  try have lt1_w_w4 : w.heap.size + 1 < w4.heap.size := by omega
  have le_w1_w4 : w1.heap.size ≤ w4.heap.size := by omega
  try have lt_w1_w4 : w1.heap.size < w4.heap.size := by omega
  have le_w2_w4 : w2.heap.size ≤ w4.heap.size := by omega
  try have lt_w2_w4 : w2.heap.size < w4.heap.size := by omega
  have le_w3_w4 : w3.heap.size ≤ w4.heap.size := by omega
  try have lt_w3_w4 : w3.heap.size < w4.heap.size := by omega
  (try go_simp); (repeat (first | ((with_reducible refine wp_region_app ?_); simp only [List.cons_append, List.nil_append]) | go_values | go_skip | go_guarded | go_step | go_upon))
  refine (rcalMay_c b _ (ib.below (by repeat (first | assumption | exact Below.refl _ _ | (with_reducible refine Below.drew ?_) | (with_reducible refine below_drewN' ?_ _) | (with_reducible refine below_al ?_) | ((with_reducible refine below_set ?_ ?_); rotate_left; focus (first | (simp; done) | (simp; omega))))))).mono ?_; rintro e w5 ⟨rfl, hb5⟩
  have hz5 := hb5.size; (try simp at hz5); obtain ⟨hc5, hf5⟩ := bcell hb5; have hB5 := below_step (w := w) hb5 (by repeat (first | assumption | exact Below.refl _ _ | (with_reducible refine Below.drew ?_) | (with_reducible refine below_drewN' ?_ _) | (with_reducible refine below_al ?_) | ((with_reducible refine below_set ?_ ?_); rotate_left; focus (first | (simp; done) | (simp; omega)))))
  have le_w_w5 : w.heap.size ≤ w5.heap.size := by omega
  try have lt_w_w5 : w.heap.size < w5.heap.size := by omega
  have le1_w_w5 : w.heap.size + 1 ≤ w5.heap.size := by omega
  try have lt1_w_w5 : w.heap.size + 1 < w5.heap.size := by omega
  have le_w1_w5 : w1.heap.size ≤ w5.heap.size := by omega
  try have lt_w1_w5 : w1.heap.size < w5.heap.size := by omega
  have le_w2_w5 : w2.heap.size ≤ w5.heap.size := by omega
  try have lt_w2_w5 : w2.heap.size < w5.heap.size := by omega
  have le_w3_w5 : w3.heap.size ≤ w5.heap.size := by omega
  try have lt_w3_w5 : w3.heap.size < w5.heap.size := by omega
  have le_w4_w5 : w4.heap.size ≤ w5.heap.size := by omega
  try have lt_w4_w5 : w4.heap.size < w5.heap.size := by omega
  (try go_simp); (repeat (first | ((with_reducible refine wp_region_app ?_); simp only [List.cons_append, List.nil_append]) | go_values | go_skip | go_guarded | go_step | go_upon))
  go_ret
  exact ⟨rfl, by repeat (first | assumption | exact Below.refl _ _ | (with_reducible refine Below.drew ?_) | (with_reducible refine below_drewN' ?_ _) | (with_reducible refine below_al ?_) | ((with_reducible refine below_set ?_ ?_); rotate_left; focus (first | (simp; done) | (simp; omega))))⟩
set_option maxRecDepth 100000 in
set_option maxHeartbeats 8000000 in
theorem calBoth_no (a b : CalP) (n : Int) (fa : a.few = true) (fb : b.few = true) (ma : a.may = true) (mb : b.may = true) (uab : uopen a b = false) (va : Bool) (ha : a.is n = va) (w : World) (hL : Laid w) (hN : AllOff w) (ia : CalIn w a) (ib : CalIn w b) : Calls Tryd.prog 11 #[.agg #[.bool a.o0, .bool a.o1, .bool a.o2, .bool a.o3, .bool a.o4, .bool a.o5, .bool a.o6, .slice a.A a.rs.length a.cR, .slice a.D a.ds.length a.cD], .agg #[.bool b.o0, .bool b.o1, .bool b.o2, .bool b.o3, .bool b.o4, .bool b.o5, .bool b.o6, .slice b.A b.rs.length b.cR, .slice b.D b.ds.length b.cD], .int .i64 n] w fun e w' => e = .returned (.bool true) ∧ Below w.heap.size w w' := by
  have hka := Lib.hid (CalP.ok ma); have hkb := Lib.hid (CalP.ok mb)
  have uaa : Hid (uopen a a = true) := Lib.hid ((uopen_self a).trans (CalP.may_iff.1 ma).1)
  have uba := Lib.hid ((uopen_comm b a).trans uab)
  have UAB := Lib.hid uab; clear uab
  have HMA := Lib.hid ma; have HMB := Lib.hid mb; have HFA := Lib.hid fa; have HFB := Lib.hid fb
  have hB : Below w.heap.size w w := Below.refl _ _
  go_enter Tryd.func11, Tryd.ntmps11
  (try go_simp); (repeat (first | ((with_reducible refine wp_region_app ?_); simp only [List.cons_append, List.nil_append]) | go_values | go_skip | go_guarded | go_step | go_upon))
  refine (shown13_c _ (hL.below (by repeat (first | assumption | exact Below.refl _ _ | (with_reducible refine Below.drew ?_) | (with_reducible refine below_drewN' ?_ _) | (with_reducible refine below_al ?_) | ((with_reducible refine below_set ?_ ?_); rotate_left; focus (first | (simp; done) | (simp; omega)))))) (hN.below (by repeat (first | assumption | exact Below.refl _ _ | (with_reducible refine Below.drew ?_) | (with_reducible refine below_drewN' ?_ _) | (with_reducible refine below_al ?_) | ((with_reducible refine below_set ?_ ?_); rotate_left; focus (first | (simp; done) | (simp; omega))))))).mono ?_; rintro e w1 ⟨rfl, hb1⟩
  have hz1 := hb1.size; (try simp at hz1); obtain ⟨hc1, hf1⟩ := bcell hb1; have hB1 := below_step (w := w) hb1 (by repeat (first | assumption | exact Below.refl _ _ | (with_reducible refine Below.drew ?_) | (with_reducible refine below_drewN' ?_ _) | (with_reducible refine below_al ?_) | ((with_reducible refine below_set ?_ ?_); rotate_left; focus (first | (simp; done) | (simp; omega)))))
  have le_w_w1 : w.heap.size ≤ w1.heap.size := by omega
  try have lt_w_w1 : w.heap.size < w1.heap.size := by omega
  have le1_w_w1 : w.heap.size + 1 ≤ w1.heap.size := by omega
  try have lt1_w_w1 : w.heap.size + 1 < w1.heap.size := by omega
  (try go_simp); (repeat (first | ((with_reducible refine wp_region_app ?_); simp only [List.cons_append, List.nil_append]) | go_values | go_skip | go_guarded | go_step | go_upon))
  refine (few_c a _).mono ?_; rintro e w2 ⟨rfl, hb2⟩
  have hz2 := hb2.size; (try simp at hz2); obtain ⟨hc2, hf2⟩ := bcell hb2; have hB2 := below_step (w := w) hb2 (by repeat (first | assumption | exact Below.refl _ _ | (with_reducible refine Below.drew ?_) | (with_reducible refine below_drewN' ?_ _) | (with_reducible refine below_al ?_) | ((with_reducible refine below_set ?_ ?_); rotate_left; focus (first | (simp; done) | (simp; omega)))))
  have le_w_w2 : w.heap.size ≤ w2.heap.size := by omega
  try have lt_w_w2 : w.heap.size < w2.heap.size := by omega
  have le1_w_w2 : w.heap.size + 1 ≤ w2.heap.size := by omega
  try have lt1_w_w2 : w.heap.size + 1 < w2.heap.size := by omega
  have le_w1_w2 : w1.heap.size ≤ w2.heap.size := by omega
  try have lt_w1_w2 : w1.heap.size < w2.heap.size := by omega
  (try go_simp); (repeat (first | ((with_reducible refine wp_region_app ?_); simp only [List.cons_append, List.nil_append]) | go_values | go_skip | go_guarded | go_step | go_upon))
  refine (few_c b _).mono ?_; rintro e w3 ⟨rfl, hb3⟩
  have hz3 := hb3.size; (try simp at hz3); obtain ⟨hc3, hf3⟩ := bcell hb3; have hB3 := below_step (w := w) hb3 (by repeat (first | assumption | exact Below.refl _ _ | (with_reducible refine Below.drew ?_) | (with_reducible refine below_drewN' ?_ _) | (with_reducible refine below_al ?_) | ((with_reducible refine below_set ?_ ?_); rotate_left; focus (first | (simp; done) | (simp; omega)))))
  have le_w_w3 : w.heap.size ≤ w3.heap.size := by omega
  try have lt_w_w3 : w.heap.size < w3.heap.size := by omega
  have le1_w_w3 : w.heap.size + 1 ≤ w3.heap.size := by omega
  try have lt1_w_w3 : w.heap.size + 1 < w3.heap.size := by omega
  have le_w1_w3 : w1.heap.size ≤ w3.heap.size := by omega
  try have lt_w1_w3 : w1.heap.size < w3.heap.size := by omega
  have le_w2_w3 : w2.heap.size ≤ w3.heap.size := by omega
  try have lt_w2_w3 : w2.heap.size < w3.heap.size := by omega
  (try go_simp); (repeat (first | ((with_reducible refine wp_region_app ?_); simp only [List.cons_append, List.nil_append]) | go_values | go_skip | go_guarded | go_step | go_upon))
  refine (rcalMay_c a _ (ia.below (by repeat (first | assumption | exact Below.refl _ _ | (with_reducible refine Below.drew ?_) | (with_reducible refine below_drewN' ?_ _) | (with_reducible refine below_al ?_) | ((with_reducible refine below_set ?_ ?_); rotate_left; focus (first | (simp; done) | (simp; omega))))))).mono ?_; rintro e w4 ⟨rfl, hb4⟩
  have hz4 := hb4.size; (try simp at hz4); obtain ⟨hc4, hf4⟩ := bcell hb4; have hB4 := below_step (w := w) hb4 (by repeat (first | assumption | exact Below.refl _ _ | (with_reducible refine Below.drew ?_) | (with_reducible refine below_drewN' ?_ _) | (with_reducible refine below_al ?_) | ((with_reducible refine below_set ?_ ?_); rotate_left; focus (first | (simp; done) | (simp; omega)))))
  have le_w_w4 : w.heap.size ≤ w4.heap.size := by omega
  try have lt_w_w4 : w.heap.size < w4.heap.size := by omega
  have le1_w_w4 : w.heap.size + 1 ≤ w4.heap.size := by omega
  try have lt1_w_w4 : w.heap.size + 1 < w4.heap.size := by omega
  have le_w1_w4 : w1.heap.size ≤ w4.heap.size := by omega
  try have lt_w1_w4 : w1.heap.size < w4.heap.size := by omega
  have le_w2_w4 : w2.heap.size ≤ w4.heap.size := by omega
  try have lt_w2_w4 : w2.heap.size < w4.heap.size := by omega
  have le_w3_w4 : w3.heap.size ≤ w4.heap.size := by omega
  try have lt_w3_w4 : w3.heap.size < w4.heap.size := by omega
  (try go_simp); (repeat (first | ((with_reducible refine wp_region_app ?_); simp only [List.cons_append, List.nil_append]) | go_values | go_skip | go_guarded | go_step | go_upon))
  refine (rcalMay_c b _ (ib.below (by repeat (first | assumption | exact Below.refl _ _ | (with_reducible refine Below.drew ?_) | (with_reducible refine below_drewN' ?_ _) | (with_reducible refine below_al ?_) | ((with_reducible refine below_set ?_ ?_); rotate_left; focus (first | (simp; done) | (simp; omega))))))).mono ?_; rintro e w5 ⟨rfl, hb5⟩
  have hz5 := hb5.size; (try simp at hz5); obtain ⟨hc5, hf5⟩ := bcell hb5; have hB5 := below_step (w := w) hb5 (by repeat (first | assumption | exact Below.refl _ _ | (with_reducible refine Below.drew ?_) | (with_reducible refine below_drewN' ?_ _) | (with_reducible refine below_al ?_) | ((with_reducible refine below_set ?_ ?_); rotate_left; focus (first | (simp; done) | (simp; omega)))))
  have le_w_w5 : w.heap.size ≤ w5.heap.size := by omega
  try have lt_w_w5 : w.heap.size < w5.heap.size := by omega
  have le1_w_w5 : w.heap.size + 1 ≤ w5.heap.size := by omega
  try have lt1_w_w5 : w.heap.size + 1 < w5.heap.size := by omega
  have le_w1_w5 : w1.heap.size ≤ w5.heap.size := by omega
  try have lt_w1_w5 : w1.heap.size < w5.heap.size := by omega
  have le_w2_w5 : w2.heap.size ≤ w5.heap.size := by omega
  try have lt_w2_w5 : w2.heap.size < w5.heap.size := by omega
  have le_w3_w5 : w3.heap.size ≤ w5.heap.size := by omega
  try have lt_w3_w5 : w3.heap.size < w5.heap.size := by omega
  have le_w4_w5 : w4.heap.size ≤ w5.heap.size := by omega
  try have lt_w4_w5 : w4.heap.size < w5.heap.size := by omega
  (try go_simp); (repeat (first | ((with_reducible refine wp_region_app ?_); simp only [List.cons_append, List.nil_append]) | go_values | go_skip | go_guarded | go_step | go_upon))
  refine (union_not a b HMA.out HMB.out HFA.out HFB.out UAB.out _ (hL.below (by repeat (first | assumption | exact Below.refl _ _ | (with_reducible refine Below.drew ?_) | (with_reducible refine below_drewN' ?_ _) | (with_reducible refine below_al ?_) | ((with_reducible refine below_set ?_ ?_); rotate_left; focus (first | (simp; done) | (simp; omega)))))) (hN.below (by repeat (first | assumption | exact Below.refl _ _ | (with_reducible refine Below.drew ?_) | (with_reducible refine below_drewN' ?_ _) | (with_reducible refine below_al ?_) | ((with_reducible refine below_set ?_ ?_); rotate_left; focus (first | (simp; done) | (simp; omega)))))) (ia.below (by repeat (first | assumption | exact Below.refl _ _ | (with_reducible refine Below.drew ?_) | (with_reducible refine below_drewN' ?_ _) | (with_reducible refine below_al ?_) | ((with_reducible refine below_set ?_ ?_); rotate_left; focus (first | (simp; done) | (simp; omega)))))) (ib.below (by repeat (first | assumption | exact Below.refl _ _ | (with_reducible refine Below.drew ?_) | (with_reducible refine below_drewN' ?_ _) | (with_reducible refine below_al ?_) | ((with_reducible refine below_set ?_ ?_); rotate_left; focus (first | (simp; done) | (simp; omega))))))).mono ?_; rintro e w6 ⟨hb6, rfl⟩
  have hz6 := hb6.size; (try simp at hz6); obtain ⟨hc6, hf6⟩ := bcell hb6; have hB6 := below_step (w := w) hb6 (by repeat (first | assumption | exact Below.refl _ _ | (with_reducible refine Below.drew ?_) | (with_reducible refine below_drewN' ?_ _) | (with_reducible refine below_al ?_) | ((with_reducible refine below_set ?_ ?_); rotate_left; focus (first | (simp; done) | (simp; omega)))))
  have le_w_w6 : w.heap.size ≤ w6.heap.size := by omega
  try have lt_w_w6 : w.heap.size < w6.heap.size := by omega
  have ly_w_w6 : w.heap.size < w6.heap.size + 1 := by omega
  have le_w1_w6 : w1.heap.size ≤ w6.heap.size := by omega
  try have lt_w1_w6 : w1.heap.size < w6.heap.size := by omega
  have ly_w1_w6 : w1.heap.size < w6.heap.size + 1 := by omega
  have le_w2_w6 : w2.heap.size ≤ w6.heap.size := by omega
  try have lt_w2_w6 : w2.heap.size < w6.heap.size := by omega
  have ly_w2_w6 : w2.heap.size < w6.heap.size + 1 := by omega
  have le_w3_w6 : w3.heap.size ≤ w6.heap.size := by omega
  try have lt_w3_w6 : w3.heap.size < w6.heap.size := by omega
  have ly_w3_w6 : w3.heap.size < w6.heap.size + 1 := by omega
  have le_w4_w6 : w4.heap.size ≤ w6.heap.size := by omega
  try have lt_w4_w6 : w4.heap.size < w6.heap.size := by omega
  have ly_w4_w6 : w4.heap.size < w6.heap.size + 1 := by omega
  have le_w5_w6 : w5.heap.size ≤ w6.heap.size := by omega
  try have lt_w5_w6 : w5.heap.size < w6.heap.size := by omega
  have ly_w5_w6 : w5.heap.size < w6.heap.size + 1 := by omega
  have lx_w6 : w.heap.size + 1 < w6.heap.size := by omega
  have lz_w6 : w.heap.size + 1 < w6.heap.size + 1 := by omega
  (try go_simp); (repeat (first | ((with_reducible refine wp_region_app ?_); simp only [List.cons_append, List.nil_append]) | go_values | go_skip | go_guarded | go_step | go_upon))
  refine (union_not b a HMB.out HMA.out HFB.out HFA.out uba.out _ (hL.below (by repeat (first | assumption | exact Below.refl _ _ | (with_reducible refine Below.drew ?_) | (with_reducible refine below_drewN' ?_ _) | (with_reducible refine below_al ?_) | ((with_reducible refine below_set ?_ ?_); rotate_left; focus (first | (simp; done) | (simp; omega)))))) (hN.below (by repeat (first | assumption | exact Below.refl _ _ | (with_reducible refine Below.drew ?_) | (with_reducible refine below_drewN' ?_ _) | (with_reducible refine below_al ?_) | ((with_reducible refine below_set ?_ ?_); rotate_left; focus (first | (simp; done) | (simp; omega)))))) (ib.below (by repeat (first | assumption | exact Below.refl _ _ | (with_reducible refine Below.drew ?_) | (with_reducible refine below_drewN' ?_ _) | (with_reducible refine below_al ?_) | ((with_reducible refine below_set ?_ ?_); rotate_left; focus (first | (simp; done) | (simp; omega)))))) (ia.below (by repeat (first | assumption | exact Below.refl _ _ | (with_reducible refine Below.drew ?_) | (with_reducible refine below_drewN' ?_ _) | (with_reducible refine below_al ?_) | ((with_reducible refine below_set ?_ ?_); rotate_left; focus (first | (simp; done) | (simp; omega))))))).mono ?_; rintro e w7 ⟨hb7, rfl⟩
  have hz7 := hb7.size; (try simp at hz7); obtain ⟨hc7, hf7⟩ := bcell hb7; have hB7 := below_step (w := w) hb7 (by repeat (first | assumption | exact Below.refl _ _ | (with_reducible refine Below.drew ?_) | (with_reducible refine below_drewN' ?_ _) | (with_reducible refine below_al ?_) | ((with_reducible refine below_set ?_ ?_); rotate_left; focus (first | (simp; done) | (simp; omega)))))
  have le_w_w7 : w.heap.size ≤ w7.heap.size := by omega
  try have lt_w_w7 : w.heap.size < w7.heap.size := by omega
  have ly_w_w7 : w.heap.size < w7.heap.size + 1 := by omega
  have le_w1_w7 : w1.heap.size ≤ w7.heap.size := by omega
  try have lt_w1_w7 : w1.heap.size < w7.heap.size := by omega
  have ly_w1_w7 : w1.heap.size < w7.heap.size + 1 := by omega
  have le_w2_w7 : w2.heap.size ≤ w7.heap.size := by omega
  try have lt_w2_w7 : w2.heap.size < w7.heap.size := by omega
  have ly_w2_w7 : w2.heap.size < w7.heap.size + 1 := by omega
  have le_w3_w7 : w3.heap.size ≤ w7.heap.size := by omega
  try have lt_w3_w7 : w3.heap.size < w7.heap.size := by omega
  have ly_w3_w7 : w3.heap.size < w7.heap.size + 1 := by omega
  have le_w4_w7 : w4.heap.size ≤ w7.heap.size := by omega
  try have lt_w4_w7 : w4.heap.size < w7.heap.size := by omega
  have ly_w4_w7 : w4.heap.size < w7.heap.size + 1 := by omega
  have le_w5_w7 : w5.heap.size ≤ w7.heap.size := by omega
  try have lt_w5_w7 : w5.heap.size < w7.heap.size := by omega
  have ly_w5_w7 : w5.heap.size < w7.heap.size + 1 := by omega
  have le_w6_w7 : w6.heap.size ≤ w7.heap.size := by omega
  try have lt_w6_w7 : w6.heap.size < w7.heap.size := by omega
  have ly_w6_w7 : w6.heap.size < w7.heap.size + 1 := by omega
  have lx_w7 : w.heap.size + 1 < w7.heap.size := by omega
  have lz_w7 : w.heap.size + 1 < w7.heap.size + 1 := by omega
  (try go_simp); (repeat (first | ((with_reducible refine wp_region_app ?_); simp only [List.cons_append, List.nil_append]) | go_values | go_skip | go_guarded | go_step | go_upon))
  refine (union_yes a a HMA.out HMA.out HFA.out HFA.out uaa.out _ (hL.below (by repeat (first | assumption | exact Below.refl _ _ | (with_reducible refine Below.drew ?_) | (with_reducible refine below_drewN' ?_ _) | (with_reducible refine below_al ?_) | ((with_reducible refine below_set ?_ ?_); rotate_left; focus (first | (simp; done) | (simp; omega)))))) (hN.below (by repeat (first | assumption | exact Below.refl _ _ | (with_reducible refine Below.drew ?_) | (with_reducible refine below_drewN' ?_ _) | (with_reducible refine below_al ?_) | ((with_reducible refine below_set ?_ ?_); rotate_left; focus (first | (simp; done) | (simp; omega)))))) (ia.below (by repeat (first | assumption | exact Below.refl _ _ | (with_reducible refine Below.drew ?_) | (with_reducible refine below_drewN' ?_ _) | (with_reducible refine below_al ?_) | ((with_reducible refine below_set ?_ ?_); rotate_left; focus (first | (simp; done) | (simp; omega)))))) (ia.below (by repeat (first | assumption | exact Below.refl _ _ | (with_reducible refine Below.drew ?_) | (with_reducible refine below_drewN' ?_ _) | (with_reducible refine below_al ?_) | ((with_reducible refine below_set ?_ ?_); rotate_left; focus (first | (simp; done) | (simp; omega))))))).mono ?_; rintro e w8 ⟨z, hz, icz, hmz, hb8, rfl⟩
  have Hz := Lib.hid hz; have HMz := Lib.hid hmz; clear hz hmz
  have hz8 := hb8.size; (try simp at hz8); obtain ⟨hc8, hf8⟩ := bcell hb8; have hB8 := below_step (w := w) hb8 (by repeat (first | assumption | exact Below.refl _ _ | (with_reducible refine Below.drew ?_) | (with_reducible refine below_drewN' ?_ _) | (with_reducible refine below_al ?_) | ((with_reducible refine below_set ?_ ?_); rotate_left; focus (first | (simp; done) | (simp; omega)))))
  have le_w_w8 : w.heap.size ≤ w8.heap.size := by omega
  try have lt_w_w8 : w.heap.size < w8.heap.size := by omega
  have ly_w_w8 : w.heap.size < w8.heap.size + 1 := by omega
  have le_w1_w8 : w1.heap.size ≤ w8.heap.size := by omega
  try have lt_w1_w8 : w1.heap.size < w8.heap.size := by omega
  have ly_w1_w8 : w1.heap.size < w8.heap.size + 1 := by omega
  have le_w2_w8 : w2.heap.size ≤ w8.heap.size := by omega
  try have lt_w2_w8 : w2.heap.size < w8.heap.size := by omega
  have ly_w2_w8 : w2.heap.size < w8.heap.size + 1 := by omega
  have le_w3_w8 : w3.heap.size ≤ w8.heap.size := by omega
  try have lt_w3_w8 : w3.heap.size < w8.heap.size := by omega
  have ly_w3_w8 : w3.heap.size < w8.heap.size + 1 := by omega
  have le_w4_w8 : w4.heap.size ≤ w8.heap.size := by omega
  try have lt_w4_w8 : w4.heap.size < w8.heap.size := by omega
  have ly_w4_w8 : w4.heap.size < w8.heap.size + 1 := by omega
  have le_w5_w8 : w5.heap.size ≤ w8.heap.size := by omega
  try have lt_w5_w8 : w5.heap.size < w8.heap.size := by omega
  have ly_w5_w8 : w5.heap.size < w8.heap.size + 1 := by omega
  have le_w6_w8 : w6.heap.size ≤ w8.heap.size := by omega
  try have lt_w6_w8 : w6.heap.size < w8.heap.size := by omega
  have ly_w6_w8 : w6.heap.size < w8.heap.size + 1 := by omega
  have le_w7_w8 : w7.heap.size ≤ w8.heap.size := by omega
  try have lt_w7_w8 : w7.heap.size < w8.heap.size := by omega
  have ly_w7_w8 : w7.heap.size < w8.heap.size + 1 := by omega
  have lx_w8 : w.heap.size + 1 < w8.heap.size := by omega
  have lz_w8 : w.heap.size + 1 < w8.heap.size + 1 := by omega
  (try go_simp); (repeat (first | ((with_reducible refine wp_region_app ?_); simp only [List.cons_append, List.nil_append]) | go_values | go_skip | go_guarded | go_step | go_upon))
  generalize hW : (w8.alloc _) = w9
  have hB9 : Below w.heap.size w w9 := by rw [← hW]; exact below_al hB8
  have Fa0 : Hid (w9.cell? ⟨w.heap.size, 0, none⟩ = some (.bool a.o0)) := Lib.hid (by rw [← hW]; exact cell_al (below_some hb8 _ _ _ (cell_al (below_some hb7 _ _ _ (cell_al (below_some hb6 _ _ _ (below_some hb5 _ _ _ (below_some hb4 _ _ _ (below_some hb3 _ _ _ (below_some hb2 _ _ _ (below_some hb1 _ _ _ (cell_al (cell_nu rfl rfl)))))))))))))
  have Fa1 : Hid (w9.cell? ⟨w.heap.size, 1, none⟩ = some (.bool a.o1)) := Lib.hid (by rw [← hW]; exact cell_al (below_some hb8 _ _ _ (cell_al (below_some hb7 _ _ _ (cell_al (below_some hb6 _ _ _ (below_some hb5 _ _ _ (below_some hb4 _ _ _ (below_some hb3 _ _ _ (below_some hb2 _ _ _ (below_some hb1 _ _ _ (cell_al (cell_nu rfl rfl)))))))))))))
  have Fa2 : Hid (w9.cell? ⟨w.heap.size, 2, none⟩ = some (.bool a.o2)) := Lib.hid (by rw [← hW]; exact cell_al (below_some hb8 _ _ _ (cell_al (below_some hb7 _ _ _ (cell_al (below_some hb6 _ _ _ (below_some hb5 _ _ _ (below_some hb4 _ _ _ (below_some hb3 _ _ _ (below_some hb2 _ _ _ (below_some hb1 _ _ _ (cell_al (cell_nu rfl rfl)))))))))))))
  have Fa3 : Hid (w9.cell? ⟨w.heap.size, 3, none⟩ = some (.bool a.o3)) := Lib.hid (by rw [← hW]; exact cell_al (below_some hb8 _ _ _ (cell_al (below_some hb7 _ _ _ (cell_al (below_some hb6 _ _ _ (below_some hb5 _ _ _ (below_some hb4 _ _ _ (below_some hb3 _ _ _ (below_some hb2 _ _ _ (below_some hb1 _ _ _ (cell_al (cell_nu rfl rfl)))))))))))))
  have Fa4 : Hid (w9.cell? ⟨w.heap.size, 4, none⟩ = some (.bool a.o4)) := Lib.hid (by rw [← hW]; exact cell_al (below_some hb8 _ _ _ (cell_al (below_some hb7 _ _ _ (cell_al (below_some hb6 _ _ _ (below_some hb5 _ _ _ (below_some hb4 _ _ _ (below_some hb3 _ _ _ (below_some hb2 _ _ _ (below_some hb1 _ _ _ (cell_al (cell_nu rfl rfl)))))))))))))
  have Fa5 : Hid (w9.cell? ⟨w.heap.size, 5, none⟩ = some (.bool a.o5)) := Lib.hid (by rw [← hW]; exact cell_al (below_some hb8 _ _ _ (cell_al (below_some hb7 _ _ _ (cell_al (below_some hb6 _ _ _ (below_some hb5 _ _ _ (below_some hb4 _ _ _ (below_some hb3 _ _ _ (below_some hb2 _ _ _ (below_some hb1 _ _ _ (cell_al (cell_nu rfl rfl)))))))))))))
  have Fa6 : Hid (w9.cell? ⟨w.heap.size, 6, none⟩ = some (.bool a.o6)) := Lib.hid (by rw [← hW]; exact cell_al (below_some hb8 _ _ _ (cell_al (below_some hb7 _ _ _ (cell_al (below_some hb6 _ _ _ (below_some hb5 _ _ _ (below_some hb4 _ _ _ (below_some hb3 _ _ _ (below_some hb2 _ _ _ (below_some hb1 _ _ _ (cell_al (cell_nu rfl rfl)))))))))))))
  have Fa7 : Hid (w9.cell? ⟨w.heap.size, 7, none⟩ = some (.slice a.A a.rs.length a.cR)) := Lib.hid (by rw [← hW]; exact cell_al (below_some hb8 _ _ _ (cell_al (below_some hb7 _ _ _ (cell_al (below_some hb6 _ _ _ (below_some hb5 _ _ _ (below_some hb4 _ _ _ (below_some hb3 _ _ _ (below_some hb2 _ _ _ (below_some hb1 _ _ _ (cell_al (cell_nu rfl rfl)))))))))))))
  have Fa8 : Hid (w9.cell? ⟨w.heap.size, 8, none⟩ = some (.slice a.D a.ds.length a.cD)) := Lib.hid (by rw [← hW]; exact cell_al (below_some hb8 _ _ _ (cell_al (below_some hb7 _ _ _ (cell_al (below_some hb6 _ _ _ (below_some hb5 _ _ _ (below_some hb4 _ _ _ (below_some hb3 _ _ _ (below_some hb2 _ _ _ (below_some hb1 _ _ _ (cell_al (cell_nu rfl rfl)))))))))))))
  have Fb0 : Hid (w9.cell? ⟨w.heap.size + 1, 0, none⟩ = some (.bool b.o0)) := Lib.hid (by rw [← hW]; exact cell_al (below_some hb8 _ _ _ (cell_al (below_some hb7 _ _ _ (cell_al (below_some hb6 _ _ _ (below_some hb5 _ _ _ (below_some hb4 _ _ _ (below_some hb3 _ _ _ (below_some hb2 _ _ _ (below_some hb1 _ _ _ (cell_nu (by simp) rfl))))))))))))
  have Fb1 : Hid (w9.cell? ⟨w.heap.size + 1, 1, none⟩ = some (.bool b.o1)) := Lib.hid (by rw [← hW]; exact cell_al (below_some hb8 _ _ _ (cell_al (below_some hb7 _ _ _ (cell_al (below_some hb6 _ _ _ (below_some hb5 _ _ _ (below_some hb4 _ _ _ (below_some hb3 _ _ _ (below_some hb2 _ _ _ (below_some hb1 _ _ _ (cell_nu (by simp) rfl))))))))))))
  have Fb2 : Hid (w9.cell? ⟨w.heap.size + 1, 2, none⟩ = some (.bool b.o2)) := Lib.hid (by rw [← hW]; exact cell_al (below_some hb8 _ _ _ (cell_al (below_some hb7 _ _ _ (cell_al (below_some hb6 _ _ _ (below_some hb5 _ _ _ (below_some hb4 _ _ _ (below_some hb3 _ _ _ (below_some hb2 _ _ _ (below_some hb1 _ _ _ (cell_nu (by simp) rfl))))))))))))
  have Fb3 : Hid (w9.cell? ⟨w.heap.size + 1, 3, none⟩ = some (.bool b.o3)) := Lib.hid (by rw [← hW]; exact cell_al (below_some hb8 _ _ _ (cell_al (below_some hb7 _ _ _ (cell_al (below_some hb6 _ _ _ (below_some hb5 _ _ _ (below_some hb4 _ _ _ (below_some hb3 _ _ _ (below_some hb2 _ _ _ (below_some hb1 _ _ _ (cell_nu (by simp) rfl))))))))))))
  have Fb4 : Hid (w9.cell? ⟨w.heap.size + 1, 4, none⟩ = some (.bool b.o4)) := Lib.hid (by rw [← hW]; exact cell_al (below_some hb8 _ _ _ (cell_al (below_some hb7 _ _ _ (cell_al (below_some hb6 _ _ _ (below_some hb5 _ _ _ (below_some hb4 _ _ _ (below_some hb3 _ _ _ (below_some hb2 _ _ _ (below_some hb1 _ _ _ (cell_nu (by simp) rfl))))))))))))
  have Fb5 : Hid (w9.cell? ⟨w.heap.size + 1, 5, none⟩ = some (.bool b.o5)) := Lib.hid (by rw [← hW]; exact cell_al (below_some hb8 _ _ _ (cell_al (below_some hb7 _ _ _ (cell_al (below_some hb6 _ _ _ (below_some hb5 _ _ _ (below_some hb4 _ _ _ (below_some hb3 _ _ _ (below_some hb2 _ _ _ (below_some hb1 _ _ _ (cell_nu (by simp) rfl))))))))))))
  have Fb6 : Hid (w9.cell? ⟨w.heap.size + 1, 6, none⟩ = some (.bool b.o6)) := Lib.hid (by rw [← hW]; exact cell_al (below_some hb8 _ _ _ (cell_al (below_some hb7 _ _ _ (cell_al (below_some hb6 _ _ _ (below_some hb5 _ _ _ (below_some hb4 _ _ _ (below_some hb3 _ _ _ (below_some hb2 _ _ _ (below_some hb1 _ _ _ (cell_nu (by simp) rfl))))))))))))
  have Fb7 : Hid (w9.cell? ⟨w.heap.size + 1, 7, none⟩ = some (.slice b.A b.rs.length b.cR)) := Lib.hid (by rw [← hW]; exact cell_al (below_some hb8 _ _ _ (cell_al (below_some hb7 _ _ _ (cell_al (below_some hb6 _ _ _ (below_some hb5 _ _ _ (below_some hb4 _ _ _ (below_some hb3 _ _ _ (below_some hb2 _ _ _ (below_some hb1 _ _ _ (cell_nu (by simp) rfl))))))))))))
  have Fb8 : Hid (w9.cell? ⟨w.heap.size + 1, 8, none⟩ = some (.slice b.D b.ds.length b.cD)) := Lib.hid (by rw [← hW]; exact cell_al (below_some hb8 _ _ _ (cell_al (below_some hb7 _ _ _ (cell_al (below_some hb6 _ _ _ (below_some hb5 _ _ _ (below_some hb4 _ _ _ (below_some hb3 _ _ _ (below_some hb2 _ _ _ (below_some hb1 _ _ _ (cell_nu (by simp) rfl))))))))))))
  have Fz0 : Hid (w9.cell? ⟨w8.heap.size, 0, none⟩ = some (.bool z.o0)) := Lib.hid (by rw [← hW]; exact cell_nu rfl rfl)
  have Fz1 : Hid (w9.cell? ⟨w8.heap.size, 1, none⟩ = some (.bool z.o1)) := Lib.hid (by rw [← hW]; exact cell_nu rfl rfl)
  have Fz2 : Hid (w9.cell? ⟨w8.heap.size, 2, none⟩ = some (.bool z.o2)) := Lib.hid (by rw [← hW]; exact cell_nu rfl rfl)
  have Fz3 : Hid (w9.cell? ⟨w8.heap.size, 3, none⟩ = some (.bool z.o3)) := Lib.hid (by rw [← hW]; exact cell_nu rfl rfl)
  have Fz4 : Hid (w9.cell? ⟨w8.heap.size, 4, none⟩ = some (.bool z.o4)) := Lib.hid (by rw [← hW]; exact cell_nu rfl rfl)
  have Fz5 : Hid (w9.cell? ⟨w8.heap.size, 5, none⟩ = some (.bool z.o5)) := Lib.hid (by rw [← hW]; exact cell_nu rfl rfl)
  have Fz6 : Hid (w9.cell? ⟨w8.heap.size, 6, none⟩ = some (.bool z.o6)) := Lib.hid (by rw [← hW]; exact cell_nu rfl rfl)
  have Fz7 : Hid (w9.cell? ⟨w8.heap.size, 7, none⟩ = some (.slice z.A z.rs.length z.cR)) := Lib.hid (by rw [← hW]; exact cell_nu rfl rfl)
  have Fz8 : Hid (w9.cell? ⟨w8.heap.size, 8, none⟩ = some (.slice z.D z.ds.length z.cD)) := Lib.hid (by rw [← hW]; exact cell_nu rfl rfl)
  have hL9 := Lib.hid (hL.below hB9); have hN9 := Lib.hid (hN.below hB9); have ia9 := Lib.hid (ia.below hB9); have ib9 := Lib.hid (ib.below hB9)
  have iz9 : Hid (CalIn w9 z) := Lib.hid (by rw [← hW]; exact icz.below (below_al (Below.refl _ _)))
  have okz := Lib.hid (CalP.ok HMz.out)
  have ez : Hid (z.is n = a.is n) := Lib.hid ((uni_is Hz.out n).trans (Bool.and_self _))
  clear hW ia ib hL hN icz
  clear hc1 hf1 hc2 hf2 hc3 hf3 hc4 hf4 hc5 hf5 hc6 hf6 hc7 hf7 hc8 hf8
  try clear lx_w
  try clear lz_w
  try clear le_w_w1
  try clear lt_w_w1
  try clear le1_w_w1
  try clear lt1_w_w1
  try clear ly_w_w1
  try clear lx_w1
  try clear lz_w1
  try clear le_w_w2
  try clear lt_w_w2
  try clear le1_w_w2
  try clear lt1_w_w2
  try clear ly_w_w2
  try clear le_w1_w2
  try clear lt_w1_w2
  try clear le1_w1_w2
  try clear lt1_w1_w2
  try clear ly_w1_w2
  try clear lx_w2
  try clear lz_w2
  try clear le_w_w3
  try clear lt_w_w3
  try clear le1_w_w3
  try clear lt1_w_w3
  try clear ly_w_w3
  try clear le_w1_w3
  try clear lt_w1_w3
  try clear le1_w1_w3
  try clear lt1_w1_w3
  try clear ly_w1_w3
  try clear le_w2_w3
  try clear lt_w2_w3
  try clear le1_w2_w3
  try clear lt1_w2_w3
  try clear ly_w2_w3
  try clear lx_w3
  try clear lz_w3
  try clear le_w_w4
  try clear lt_w_w4
  try clear le1_w_w4
  try clear lt1_w_w4
  try clear ly_w_w4
  try clear le_w1_w4
  try clear lt_w1_w4
  try clear le1_w1_w4
  try clear lt1_w1_w4
  try clear ly_w1_w4
  try clear le_w2_w4
  try clear lt_w2_w4
  try clear le1_w2_w4
  try clear lt1_w2_w4
  try clear ly_w2_w4
  try clear le_w3_w4
  try clear lt_w3_w4
  try clear le1_w3_w4
  try clear lt1_w3_w4
  try clear ly_w3_w4
  try clear lx_w4
  try clear lz_w4
  try clear le_w_w5
  try clear lt_w_w5
  try clear le1_w_w5
  try clear lt1_w_w5
  try clear ly_w_w5
  try clear le_w1_w5
  try clear lt_w1_w5
  try clear le1_w1_w5
  try clear lt1_w1_w5
  try clear ly_w1_w5
  try clear le_w2_w5
  try clear lt_w2_w5
  try clear le1_w2_w5
  try clear lt1_w2_w5
  try clear ly_w2_w5
  try clear le_w3_w5
  try clear lt_w3_w5
  try clear le1_w3_w5
  try clear lt1_w3_w5
  try clear ly_w3_w5
  try clear le_w4_w5
  try clear lt_w4_w5
  try clear le1_w4_w5
  try clear lt1_w4_w5
  try clear ly_w4_w5
  try clear lx_w5
  try clear lz_w5
  try clear le_w_w6
  try clear lt_w_w6
  try clear le1_w_w6
  try clear lt1_w_w6
  try clear ly_w_w6
  try clear le_w1_w6
  try clear lt_w1_w6
  try clear le1_w1_w6
  try clear lt1_w1_w6
  try clear ly_w1_w6
  try clear le_w2_w6
  try clear lt_w2_w6
  try clear le1_w2_w6
  try clear lt1_w2_w6
  try clear ly_w2_w6
  try clear le_w3_w6
  try clear lt_w3_w6
  try clear le1_w3_w6
  try clear lt1_w3_w6
  try clear ly_w3_w6
  try clear le_w4_w6
  try clear lt_w4_w6
  try clear le1_w4_w6
  try clear lt1_w4_w6
  try clear ly_w4_w6
  try clear le_w5_w6
  try clear lt_w5_w6
  try clear le1_w5_w6
  try clear lt1_w5_w6
  try clear ly_w5_w6
  try clear lx_w6
  try clear lz_w6
  try clear le_w_w7
  try clear lt_w_w7
  try clear le1_w_w7
  try clear lt1_w_w7
  try clear ly_w_w7
  try clear le_w1_w7
  try clear lt_w1_w7
  try clear le1_w1_w7
  try clear lt1_w1_w7
  try clear ly_w1_w7
  try clear le_w2_w7
  try clear lt_w2_w7
  try clear le1_w2_w7
  try clear lt1_w2_w7
  try clear ly_w2_w7
  try clear le_w3_w7
  try clear lt_w3_w7
  try clear le1_w3_w7
  try clear lt1_w3_w7
  try clear ly_w3_w7
  try clear le_w4_w7
  try clear lt_w4_w7
  try clear le1_w4_w7
  try clear lt1_w4_w7
  try clear ly_w4_w7
  try clear le_w5_w7
  try clear lt_w5_w7
  try clear le1_w5_w7
  try clear lt1_w5_w7
  try clear ly_w5_w7
  try clear le_w6_w7
  try clear lt_w6_w7
  try clear le1_w6_w7
  try clear lt1_w6_w7
  try clear ly_w6_w7
  try clear lx_w7
  try clear lz_w7
  try clear le_w_w8
  try clear lt_w_w8
  try clear le1_w_w8
  try clear lt1_w_w8
  try clear ly_w_w8
  try clear le_w1_w8
  try clear lt_w1_w8
  try clear le1_w1_w8
  try clear lt1_w1_w8
  try clear ly_w1_w8
  try clear le_w2_w8
  try clear lt_w2_w8
  try clear le1_w2_w8
  try clear lt1_w2_w8
  try clear ly_w2_w8
  try clear le_w3_w8
  try clear lt_w3_w8
  try clear le1_w3_w8
  try clear lt1_w3_w8
  try clear ly_w3_w8
  try clear le_w4_w8
  try clear lt_w4_w8
  try clear le1_w4_w8
  try clear lt1_w4_w8
  try clear ly_w4_w8
  try clear le_w5_w8
  try clear lt_w5_w8
  try clear le1_w5_w8
  try clear lt1_w5_w8
  try clear ly_w5_w8
  try clear le_w6_w8
  try clear lt_w6_w8
  try clear le1_w6_w8
  try clear lt1_w6_w8
  try clear ly_w6_w8
  try clear le_w7_w8
  try clear lt_w7_w8
  try clear le1_w7_w8
  try clear lt1_w7_w8
  try clear ly_w7_w8
  try clear lx_w8
  try clear lz_w8
  try clear hB1
  try clear hb1
  try clear hz1
  try clear hB2
  try clear hb2
  try clear hz2
  try clear hB3
  try clear hb3
  try clear hz3
  try clear hB4
  try clear hb4
  try clear hz4
  try clear hB5
  try clear hb5
  try clear hz5
  try clear hB6
  try clear hb6
  try clear hz6
  try clear hB7
  try clear hb7
  try clear hz7
  try clear hB8
  try clear hb8
  try clear hz8
  have HKA := hka; have ez2 := ez.out; rw [ha] at ez2
  have cl0 : w9.cell? ⟨w8.heap.size, 0, none⟩ = some (.bool z.o0) := Fz0.out
  have cl1 : w9.cell? ⟨w8.heap.size, 1, none⟩ = some (.bool z.o1) := Fz1.out
  have cl2 : w9.cell? ⟨w8.heap.size, 2, none⟩ = some (.bool z.o2) := Fz2.out
  have cl3 : w9.cell? ⟨w8.heap.size, 3, none⟩ = some (.bool z.o3) := Fz3.out
  have cl4 : w9.cell? ⟨w8.heap.size, 4, none⟩ = some (.bool z.o4) := Fz4.out
  have cl5 : w9.cell? ⟨w8.heap.size, 5, none⟩ = some (.bool z.o5) := Fz5.out
  have cl6 : w9.cell? ⟨w8.heap.size, 6, none⟩ = some (.bool z.o6) := Fz6.out
  have cl7 : w9.cell? ⟨w8.heap.size, 7, none⟩ = some (.slice z.A z.rs.length z.cR) := Fz7.out
  have cl8 : w9.cell? ⟨w8.heap.size, 8, none⟩ = some (.slice z.D z.ds.length z.cD) := Fz8.out
  have cl9 : w9.cell? ⟨w.heap.size, 0, none⟩ = some (.bool a.o0) := Fa0.out
  have cl10 : w9.cell? ⟨w.heap.size, 1, none⟩ = some (.bool a.o1) := Fa1.out
  have cl11 : w9.cell? ⟨w.heap.size, 2, none⟩ = some (.bool a.o2) := Fa2.out
  have cl12 : w9.cell? ⟨w.heap.size, 3, none⟩ = some (.bool a.o3) := Fa3.out
  have cl13 : w9.cell? ⟨w.heap.size, 4, none⟩ = some (.bool a.o4) := Fa4.out
  have cl14 : w9.cell? ⟨w.heap.size, 5, none⟩ = some (.bool a.o5) := Fa5.out
  have cl15 : w9.cell? ⟨w.heap.size, 6, none⟩ = some (.bool a.o6) := Fa6.out
  have cl16 : w9.cell? ⟨w.heap.size, 7, none⟩ = some (.slice a.A a.rs.length a.cR) := Fa7.out
  have cl17 : w9.cell? ⟨w.heap.size, 8, none⟩ = some (.slice a.D a.ds.length a.cD) := Fa8.out
  have hRefl : Below w9.heap.size w9 w9 := Below.refl _ _
  have HS : Hid (∀ W, Below w9.heap.size w9 W → (fun W' => Below w9.heap.size w9 W' ∧ W'.cell? ⟨w8.heap.size, 0, none⟩ = some (.bool z.o0) ∧ W'.cell? ⟨w8.heap.size, 1, none⟩ = some (.bool z.o1) ∧ W'.cell? ⟨w8.heap.size, 2, none⟩ = some (.bool z.o2) ∧ W'.cell? ⟨w8.heap.size, 3, none⟩ = some (.bool z.o3) ∧ W'.cell? ⟨w8.heap.size, 4, none⟩ = some (.bool z.o4) ∧ W'.cell? ⟨w8.heap.size, 5, none⟩ = some (.bool z.o5) ∧ W'.cell? ⟨w8.heap.size, 6, none⟩ = some (.bool z.o6) ∧ W'.cell? ⟨w8.heap.size, 7, none⟩ = some (.slice z.A z.rs.length z.cR) ∧ W'.cell? ⟨w8.heap.size, 8, none⟩ = some (.slice z.D z.ds.length z.cD) ∧ W'.cell? ⟨w.heap.size, 0, none⟩ = some (.bool a.o0) ∧ W'.cell? ⟨w.heap.size, 1, none⟩ = some (.bool a.o1) ∧ W'.cell? ⟨w.heap.size, 2, none⟩ = some (.bool a.o2) ∧ W'.cell? ⟨w.heap.size, 3, none⟩ = some (.bool a.o3) ∧ W'.cell? ⟨w.heap.size, 4, none⟩ = some (.bool a.o4) ∧ W'.cell? ⟨w.heap.size, 5, none⟩ = some (.bool a.o5) ∧ W'.cell? ⟨w.heap.size, 6, none⟩ = some (.bool a.o6) ∧ W'.cell? ⟨w.heap.size, 7, none⟩ = some (.slice a.A a.rs.length a.cR) ∧ W'.cell? ⟨w.heap.size, 8, none⟩ = some (.slice a.D a.ds.length a.cD)) W) := Lib.hid (fun W h => ⟨h, below_some h _ _ _ cl0, below_some h _ _ _ cl1, below_some h _ _ _ cl2, below_some h _ _ _ cl3, below_some h _ _ _ cl4, below_some h _ _ _ cl5, below_some h _ _ _ cl6, below_some h _ _ _ cl7, below_some h _ _ _ cl8, below_some h _ _ _ cl9, below_some h _ _ _ cl10, below_some h _ _ _ cl11, below_some h _ _ _ cl12, below_some h _ _ _ cl13, below_some h _ _ _ cl14, below_some h _ _ _ cl15, below_some h _ _ _ cl16, below_some h _ _ _ cl17⟩)
  go_region_held3 (fun W' => Below w9.heap.size w9 W' ∧ W'.cell? ⟨w8.heap.size, 0, none⟩ = some (.bool z.o0) ∧ W'.cell? ⟨w8.heap.size, 1, none⟩ = some (.bool z.o1) ∧ W'.cell? ⟨w8.heap.size, 2, none⟩ = some (.bool z.o2) ∧ W'.cell? ⟨w8.heap.size, 3, none⟩ = some (.bool z.o3) ∧ W'.cell? ⟨w8.heap.size, 4, none⟩ = some (.bool z.o4) ∧ W'.cell? ⟨w8.heap.size, 5, none⟩ = some (.bool z.o5) ∧ W'.cell? ⟨w8.heap.size, 6, none⟩ = some (.bool z.o6) ∧ W'.cell? ⟨w8.heap.size, 7, none⟩ = some (.slice z.A z.rs.length z.cR) ∧ W'.cell? ⟨w8.heap.size, 8, none⟩ = some (.slice z.D z.ds.length z.cD) ∧ W'.cell? ⟨w.heap.size, 0, none⟩ = some (.bool a.o0) ∧ W'.cell? ⟨w.heap.size, 1, none⟩ = some (.bool a.o1) ∧ W'.cell? ⟨w.heap.size, 2, none⟩ = some (.bool a.o2) ∧ W'.cell? ⟨w.heap.size, 3, none⟩ = some (.bool a.o3) ∧ W'.cell? ⟨w.heap.size, 4, none⟩ = some (.bool a.o4) ∧ W'.cell? ⟨w.heap.size, 5, none⟩ = some (.bool a.o5) ∧ W'.cell? ⟨w.heap.size, 6, none⟩ = some (.bool a.o6) ∧ W'.cell? ⟨w.heap.size, 7, none⟩ = some (.slice a.A a.rs.length a.cR) ∧ W'.cell? ⟨w.heap.size, 8, none⟩ = some (.slice a.D a.ds.length a.cD)) ((refine HS.out _ ?_; repeat (first | (with_reducible assumption) | (with_reducible exact Below.refl _ _) | (with_reducible refine Below.drew ?_) | (with_reducible refine below_drewN' ?_ _) | (with_reducible refine below_al ?_) | ((with_reducible refine below_set ?_ ?_); rotate_left; focus (first | (simp; done) | (simp; omega)))))) (first | (go_at_call_of 36 (Value.agg #[.bool z.o0, .bool z.o1, .bool z.o2, .bool z.o3, .bool z.o4, .bool z.o5, .bool z.o6, .slice z.A z.rs.length z.cR, .slice z.D z.ds.length z.cD]); refine (calIs_c z n okz.out _ (hL9.out.below (by repeat (first | (with_reducible assumption) | (with_reducible exact Below.refl _ _) | (with_reducible refine Below.drew ?_) | (with_reducible refine below_drewN' ?_ _) | (with_reducible refine below_al ?_) | ((with_reducible refine below_set ?_ ?_); rotate_left; focus (first | (simp; done) | (simp; omega)))))) (iz9.out.below (by repeat (first | (with_reducible assumption) | (with_reducible exact Below.refl _ _) | (with_reducible refine Below.drew ?_) | (with_reducible refine below_drewN' ?_ _) | (with_reducible refine below_al ?_) | ((with_reducible refine below_set ?_ ?_); rotate_left; focus (first | (simp; done) | (simp; omega))))))).mono ?_; rintro e wq ⟨rfl, hbq⟩; have hBq := below_step (w := w9) hbq (by repeat (first | (with_reducible assumption) | (with_reducible exact Below.refl _ _) | (with_reducible refine Below.drew ?_) | (with_reducible refine below_drewN' ?_ _) | (with_reducible refine below_al ?_) | ((with_reducible refine below_set ?_ ?_); rotate_left; focus (first | (simp; done) | (simp; omega)))))) | (go_at_call_of 36 (Value.agg #[.bool a.o0, .bool a.o1, .bool a.o2, .bool a.o3, .bool a.o4, .bool a.o5, .bool a.o6, .slice a.A a.rs.length a.cR, .slice a.D a.ds.length a.cD]); refine (calIs_c a n hka.out _ (hL9.out.below (by repeat (first | (with_reducible assumption) | (with_reducible exact Below.refl _ _) | (with_reducible refine Below.drew ?_) | (with_reducible refine below_drewN' ?_ _) | (with_reducible refine below_al ?_) | ((with_reducible refine below_set ?_ ?_); rotate_left; focus (first | (simp; done) | (simp; omega)))))) (ia9.out.below (by repeat (first | (with_reducible assumption) | (with_reducible exact Below.refl _ _) | (with_reducible refine Below.drew ?_) | (with_reducible refine below_drewN' ?_ _) | (with_reducible refine below_al ?_) | ((with_reducible refine below_set ?_ ?_); rotate_left; focus (first | (simp; done) | (simp; omega))))))).mono ?_; rintro e wq ⟨rfl, hbq⟩; have hBq := below_step (w := w9) hbq (by repeat (first | (with_reducible assumption) | (with_reducible exact Below.refl _ _) | (with_reducible refine Below.drew ?_) | (with_reducible refine below_drewN' ?_ _) | (with_reducible refine below_al ?_) | ((with_reducible refine below_set ?_ ?_); rotate_left; focus (first | (simp; done) | (simp; omega)))))))
  all_goals ((try go_simp); (repeat (first | ((with_reducible refine wp_region_app ?_); simp only [List.cons_append, List.nil_append]) | go_values | go_skip | go_guarded | go_step | go_upon)); go_ret; exact ⟨rfl, hB9.trans ((by repeat (first | (with_reducible assumption) | (with_reducible exact Below.refl _ _) | (with_reducible refine Below.drew ?_) | (with_reducible refine below_drewN' ?_ _) | (with_reducible refine below_al ?_) | ((with_reducible refine below_set ?_ ?_); rotate_left; focus (first | (simp; done) | (simp; omega)))) : Below w9.heap.size w9 _).mono hB9.size)⟩)
set_option maxRecDepth 100000 in
set_option maxHeartbeats 8000000 in
theorem calBoth_tt (a b : CalP) (n : Int) (fa : a.few = true) (fb : b.few = true) (ma : a.may = true) (mb : b.may = true) (uab : uopen a b = true) (vb : Bool) (ha : a.is n = true) (hbv : b.is n = true) (w : World) (hL : Laid w) (hN : AllOff w) (ia : CalIn w a) (ib : CalIn w b) : Calls Tryd.prog 11 #[.agg #[.bool a.o0, .bool a.o1, .bool a.o2, .bool a.o3, .bool a.o4, .bool a.o5, .bool a.o6, .slice a.A a.rs.length a.cR, .slice a.D a.ds.length a.cD], .agg #[.bool b.o0, .bool b.o1, .bool b.o2, .bool b.o3, .bool b.o4, .bool b.o5, .bool b.o6, .slice b.A b.rs.length b.cR, .slice b.D b.ds.length b.cD], .int .i64 n] w fun e w' => e = .returned (.bool true) ∧ Below w.heap.size w w' := by
  have hka := Lib.hid (CalP.ok ma); have hkb := Lib.hid (CalP.ok mb)
  have uaa : Hid (uopen a a = true) := Lib.hid ((uopen_self a).trans (CalP.may_iff.1 ma).1)
  have uba := Lib.hid ((uopen_comm b a).trans uab)
  have UAB := Lib.hid uab; clear uab
  have HMA := Lib.hid ma; have HMB := Lib.hid mb; have HFA := Lib.hid fa; have HFB := Lib.hid fb
  have hB : Below w.heap.size w w := Below.refl _ _
  go_enter Tryd.func11, Tryd.ntmps11
  (try go_simp); (repeat (first | ((with_reducible refine wp_region_app ?_); simp only [List.cons_append, List.nil_append]) | go_values | go_skip | go_guarded | go_step | go_upon))
  refine (shown13_c _ (hL.below (by repeat (first | assumption | exact Below.refl _ _ | (with_reducible refine Below.drew ?_) | (with_reducible refine below_drewN' ?_ _) | (with_reducible refine below_al ?_) | ((with_reducible refine below_set ?_ ?_); rotate_left; focus (first | (simp; done) | (simp; omega)))))) (hN.below (by repeat (first | assumption | exact Below.refl _ _ | (with_reducible refine Below.drew ?_) | (with_reducible refine below_drewN' ?_ _) | (with_reducible refine below_al ?_) | ((with_reducible refine below_set ?_ ?_); rotate_left; focus (first | (simp; done) | (simp; omega))))))).mono ?_; rintro e w1 ⟨rfl, hb1⟩
  have hz1 := hb1.size; (try simp at hz1); obtain ⟨hc1, hf1⟩ := bcell hb1; have hB1 := below_step (w := w) hb1 (by repeat (first | assumption | exact Below.refl _ _ | (with_reducible refine Below.drew ?_) | (with_reducible refine below_drewN' ?_ _) | (with_reducible refine below_al ?_) | ((with_reducible refine below_set ?_ ?_); rotate_left; focus (first | (simp; done) | (simp; omega)))))
  have le_w_w1 : w.heap.size ≤ w1.heap.size := by omega
  try have lt_w_w1 : w.heap.size < w1.heap.size := by omega
  have le1_w_w1 : w.heap.size + 1 ≤ w1.heap.size := by omega
  try have lt1_w_w1 : w.heap.size + 1 < w1.heap.size := by omega
  (try go_simp); (repeat (first | ((with_reducible refine wp_region_app ?_); simp only [List.cons_append, List.nil_append]) | go_values | go_skip | go_guarded | go_step | go_upon))
  refine (few_c a _).mono ?_; rintro e w2 ⟨rfl, hb2⟩
  have hz2 := hb2.size; (try simp at hz2); obtain ⟨hc2, hf2⟩ := bcell hb2; have hB2 := below_step (w := w) hb2 (by repeat (first | assumption | exact Below.refl _ _ | (with_reducible refine Below.drew ?_) | (with_reducible refine below_drewN' ?_ _) | (with_reducible refine below_al ?_) | ((with_reducible refine below_set ?_ ?_); rotate_left; focus (first | (simp; done) | (simp; omega)))))
  have le_w_w2 : w.heap.size ≤ w2.heap.size := by omega
  try have lt_w_w2 : w.heap.size < w2.heap.size := by omega
  have le1_w_w2 : w.heap.size + 1 ≤ w2.heap.size := by omega
  try have lt1_w_w2 : w.heap.size + 1 < w2.heap.size := by omega
  have le_w1_w2 : w1.heap.size ≤ w2.heap.size := by omega
  try have lt_w1_w2 : w1.heap.size < w2.heap.size := by omega
  (try go_simp); (repeat (first | ((with_reducible refine wp_region_app ?_); simp only [List.cons_append, List.nil_append]) | go_values | go_skip | go_guarded | go_step | go_upon))
  refine (few_c b _).mono ?_; rintro e w3 ⟨rfl, hb3⟩
  have hz3 := hb3.size; (try simp at hz3); obtain ⟨hc3, hf3⟩ := bcell hb3; have hB3 := below_step (w := w) hb3 (by repeat (first | assumption | exact Below.refl _ _ | (with_reducible refine Below.drew ?_) | (with_reducible refine below_drewN' ?_ _) | (with_reducible refine below_al ?_) | ((with_reducible refine below_set ?_ ?_); rotate_left; focus (first | (simp; done) | (simp; omega)))))
  have le_w_w3 : w.heap.size ≤ w3.heap.size := by omega
  try have lt_w_w3 : w.heap.size < w3.heap.size := by omega
  have le1_w_w3 : w.heap.size + 1 ≤ w3.heap.size := by omega
  try have lt1_w_w3 : w.heap.size + 1 < w3.heap.size := by omega
  have le_w1_w3 : w1.heap.size ≤ w3.heap.size := by omega
  try have lt_w1_w3 : w1.heap.size < w3.heap.size := by omega
  have le_w2_w3 : w2.heap.size ≤ w3.heap.size := by omega
  try have lt_w2_w3 : w2.heap.size < w3.heap.size := by omega
  (try go_simp); (repeat (first | ((with_reducible refine wp_region_app ?_); simp only [List.cons_append, List.nil_append]) | go_values | go_skip | go_guarded | go_step | go_upon))
  refine (rcalMay_c a _ (ia.below (by repeat (first | assumption | exact Below.refl _ _ | (with_reducible refine Below.drew ?_) | (with_reducible refine below_drewN' ?_ _) | (with_reducible refine below_al ?_) | ((with_reducible refine below_set ?_ ?_); rotate_left; focus (first | (simp; done) | (simp; omega))))))).mono ?_; rintro e w4 ⟨rfl, hb4⟩
  have hz4 := hb4.size; (try simp at hz4); obtain ⟨hc4, hf4⟩ := bcell hb4; have hB4 := below_step (w := w) hb4 (by repeat (first | assumption | exact Below.refl _ _ | (with_reducible refine Below.drew ?_) | (with_reducible refine below_drewN' ?_ _) | (with_reducible refine below_al ?_) | ((with_reducible refine below_set ?_ ?_); rotate_left; focus (first | (simp; done) | (simp; omega)))))
  have le_w_w4 : w.heap.size ≤ w4.heap.size := by omega
  try have lt_w_w4 : w.heap.size < w4.heap.size := by omega
  have le1_w_w4 : w.heap.size + 1 ≤ w4.heap.size := by omega
  try have lt1_w_w4 : w.heap.size + 1 < w4.heap.size := by omega
  have le_w1_w4 : w1.heap.size ≤ w4.heap.size := by omega
  try have lt_w1_w4 : w1.heap.size < w4.heap.size := by omega
  have le_w2_w4 : w2.heap.size ≤ w4.heap.size := by omega
  try have lt_w2_w4 : w2.heap.size < w4.heap.size := by omega
  have le_w3_w4 : w3.heap.size ≤ w4.heap.size := by omega
  try have lt_w3_w4 : w3.heap.size < w4.heap.size := by omega
  (try go_simp); (repeat (first | ((with_reducible refine wp_region_app ?_); simp only [List.cons_append, List.nil_append]) | go_values | go_skip | go_guarded | go_step | go_upon))
  refine (rcalMay_c b _ (ib.below (by repeat (first | assumption | exact Below.refl _ _ | (with_reducible refine Below.drew ?_) | (with_reducible refine below_drewN' ?_ _) | (with_reducible refine below_al ?_) | ((with_reducible refine below_set ?_ ?_); rotate_left; focus (first | (simp; done) | (simp; omega))))))).mono ?_; rintro e w5 ⟨rfl, hb5⟩
  have hz5 := hb5.size; (try simp at hz5); obtain ⟨hc5, hf5⟩ := bcell hb5; have hB5 := below_step (w := w) hb5 (by repeat (first | assumption | exact Below.refl _ _ | (with_reducible refine Below.drew ?_) | (with_reducible refine below_drewN' ?_ _) | (with_reducible refine below_al ?_) | ((with_reducible refine below_set ?_ ?_); rotate_left; focus (first | (simp; done) | (simp; omega)))))
  have le_w_w5 : w.heap.size ≤ w5.heap.size := by omega
  try have lt_w_w5 : w.heap.size < w5.heap.size := by omega
  have le1_w_w5 : w.heap.size + 1 ≤ w5.heap.size := by omega
  try have lt1_w_w5 : w.heap.size + 1 < w5.heap.size := by omega
  have le_w1_w5 : w1.heap.size ≤ w5.heap.size := by omega
  try have lt_w1_w5 : w1.heap.size < w5.heap.size := by omega
  have le_w2_w5 : w2.heap.size ≤ w5.heap.size := by omega
  try have lt_w2_w5 : w2.heap.size < w5.heap.size := by omega
  have le_w3_w5 : w3.heap.size ≤ w5.heap.size := by omega
  try have lt_w3_w5 : w3.heap.size < w5.heap.size := by omega
  have le_w4_w5 : w4.heap.size ≤ w5.heap.size := by omega
  try have lt_w4_w5 : w4.heap.size < w5.heap.size := by omega
  (try go_simp); (repeat (first | ((with_reducible refine wp_region_app ?_); simp only [List.cons_append, List.nil_append]) | go_values | go_skip | go_guarded | go_step | go_upon))
  refine (union_yes a b HMA.out HMB.out HFA.out HFB.out UAB.out _ (hL.below (by repeat (first | assumption | exact Below.refl _ _ | (with_reducible refine Below.drew ?_) | (with_reducible refine below_drewN' ?_ _) | (with_reducible refine below_al ?_) | ((with_reducible refine below_set ?_ ?_); rotate_left; focus (first | (simp; done) | (simp; omega)))))) (hN.below (by repeat (first | assumption | exact Below.refl _ _ | (with_reducible refine Below.drew ?_) | (with_reducible refine below_drewN' ?_ _) | (with_reducible refine below_al ?_) | ((with_reducible refine below_set ?_ ?_); rotate_left; focus (first | (simp; done) | (simp; omega)))))) (ia.below (by repeat (first | assumption | exact Below.refl _ _ | (with_reducible refine Below.drew ?_) | (with_reducible refine below_drewN' ?_ _) | (with_reducible refine below_al ?_) | ((with_reducible refine below_set ?_ ?_); rotate_left; focus (first | (simp; done) | (simp; omega)))))) (ib.below (by repeat (first | assumption | exact Below.refl _ _ | (with_reducible refine Below.drew ?_) | (with_reducible refine below_drewN' ?_ _) | (with_reducible refine below_al ?_) | ((with_reducible refine below_set ?_ ?_); rotate_left; focus (first | (simp; done) | (simp; omega))))))).mono ?_; rintro e w6 ⟨x, hx, icx, hmx, hb6, rfl⟩
  have Hx := Lib.hid hx; have HMx := Lib.hid hmx; clear hx hmx
  have hz6 := hb6.size; (try simp at hz6); obtain ⟨hc6, hf6⟩ := bcell hb6; have hB6 := below_step (w := w) hb6 (by repeat (first | assumption | exact Below.refl _ _ | (with_reducible refine Below.drew ?_) | (with_reducible refine below_drewN' ?_ _) | (with_reducible refine below_al ?_) | ((with_reducible refine below_set ?_ ?_); rotate_left; focus (first | (simp; done) | (simp; omega)))))
  have le_w_w6 : w.heap.size ≤ w6.heap.size := by omega
  try have lt_w_w6 : w.heap.size < w6.heap.size := by omega
  have ly_w_w6 : w.heap.size < w6.heap.size + 1 := by omega
  have le_w1_w6 : w1.heap.size ≤ w6.heap.size := by omega
  try have lt_w1_w6 : w1.heap.size < w6.heap.size := by omega
  have ly_w1_w6 : w1.heap.size < w6.heap.size + 1 := by omega
  have le_w2_w6 : w2.heap.size ≤ w6.heap.size := by omega
  try have lt_w2_w6 : w2.heap.size < w6.heap.size := by omega
  have ly_w2_w6 : w2.heap.size < w6.heap.size + 1 := by omega
  have le_w3_w6 : w3.heap.size ≤ w6.heap.size := by omega
  try have lt_w3_w6 : w3.heap.size < w6.heap.size := by omega
  have ly_w3_w6 : w3.heap.size < w6.heap.size + 1 := by omega
  have le_w4_w6 : w4.heap.size ≤ w6.heap.size := by omega
  try have lt_w4_w6 : w4.heap.size < w6.heap.size := by omega
  have ly_w4_w6 : w4.heap.size < w6.heap.size + 1 := by omega
  have le_w5_w6 : w5.heap.size ≤ w6.heap.size := by omega
  try have lt_w5_w6 : w5.heap.size < w6.heap.size := by omega
  have ly_w5_w6 : w5.heap.size < w6.heap.size + 1 := by omega
  have lx_w6 : w.heap.size + 1 < w6.heap.size := by omega
  have lz_w6 : w.heap.size + 1 < w6.heap.size + 1 := by omega
  (try go_simp); (repeat (first | ((with_reducible refine wp_region_app ?_); simp only [List.cons_append, List.nil_append]) | go_values | go_skip | go_guarded | go_step | go_upon))
  refine (union_yes b a HMB.out HMA.out HFB.out HFA.out uba.out _ (hL.below (by repeat (first | assumption | exact Below.refl _ _ | (with_reducible refine Below.drew ?_) | (with_reducible refine below_drewN' ?_ _) | (with_reducible refine below_al ?_) | ((with_reducible refine below_set ?_ ?_); rotate_left; focus (first | (simp; done) | (simp; omega)))))) (hN.below (by repeat (first | assumption | exact Below.refl _ _ | (with_reducible refine Below.drew ?_) | (with_reducible refine below_drewN' ?_ _) | (with_reducible refine below_al ?_) | ((with_reducible refine below_set ?_ ?_); rotate_left; focus (first | (simp; done) | (simp; omega)))))) (ib.below (by repeat (first | assumption | exact Below.refl _ _ | (with_reducible refine Below.drew ?_) | (with_reducible refine below_drewN' ?_ _) | (with_reducible refine below_al ?_) | ((with_reducible refine below_set ?_ ?_); rotate_left; focus (first | (simp; done) | (simp; omega)))))) (ia.below (by repeat (first | assumption | exact Below.refl _ _ | (with_reducible refine Below.drew ?_) | (with_reducible refine below_drewN' ?_ _) | (with_reducible refine below_al ?_) | ((with_reducible refine below_set ?_ ?_); rotate_left; focus (first | (simp; done) | (simp; omega))))))).mono ?_; rintro e w7 ⟨y, hy, icy, hmy, hb7, rfl⟩
  have Hy := Lib.hid hy; have HMy := Lib.hid hmy; clear hy hmy
  have hz7 := hb7.size; (try simp at hz7); obtain ⟨hc7, hf7⟩ := bcell hb7; have hB7 := below_step (w := w) hb7 (by repeat (first | assumption | exact Below.refl _ _ | (with_reducible refine Below.drew ?_) | (with_reducible refine below_drewN' ?_ _) | (with_reducible refine below_al ?_) | ((with_reducible refine below_set ?_ ?_); rotate_left; focus (first | (simp; done) | (simp; omega)))))
  have le_w_w7 : w.heap.size ≤ w7.heap.size := by omega
  try have lt_w_w7 : w.heap.size < w7.heap.size := by omega
  have ly_w_w7 : w.heap.size < w7.heap.size + 1 := by omega
  have le_w1_w7 : w1.heap.size ≤ w7.heap.size := by omega
  try have lt_w1_w7 : w1.heap.size < w7.heap.size := by omega
  have ly_w1_w7 : w1.heap.size < w7.heap.size + 1 := by omega
  have le_w2_w7 : w2.heap.size ≤ w7.heap.size := by omega
  try have lt_w2_w7 : w2.heap.size < w7.heap.size := by omega
  have ly_w2_w7 : w2.heap.size < w7.heap.size + 1 := by omega
  have le_w3_w7 : w3.heap.size ≤ w7.heap.size := by omega
  try have lt_w3_w7 : w3.heap.size < w7.heap.size := by omega
  have ly_w3_w7 : w3.heap.size < w7.heap.size + 1 := by omega
  have le_w4_w7 : w4.heap.size ≤ w7.heap.size := by omega
  try have lt_w4_w7 : w4.heap.size < w7.heap.size := by omega
  have ly_w4_w7 : w4.heap.size < w7.heap.size + 1 := by omega
  have le_w5_w7 : w5.heap.size ≤ w7.heap.size := by omega
  try have lt_w5_w7 : w5.heap.size < w7.heap.size := by omega
  have ly_w5_w7 : w5.heap.size < w7.heap.size + 1 := by omega
  have le_w6_w7 : w6.heap.size ≤ w7.heap.size := by omega
  try have lt_w6_w7 : w6.heap.size < w7.heap.size := by omega
  have ly_w6_w7 : w6.heap.size < w7.heap.size + 1 := by omega
  have lx_w7 : w.heap.size + 1 < w7.heap.size := by omega
  have lz_w7 : w.heap.size + 1 < w7.heap.size + 1 := by omega
  (try go_simp); (repeat (first | ((with_reducible refine wp_region_app ?_); simp only [List.cons_append, List.nil_append]) | go_values | go_skip | go_guarded | go_step | go_upon))
  refine (union_yes a a HMA.out HMA.out HFA.out HFA.out uaa.out _ (hL.below (by repeat (first | assumption | exact Below.refl _ _ | (with_reducible refine Below.drew ?_) | (with_reducible refine below_drewN' ?_ _) | (with_reducible refine below_al ?_) | ((with_reducible refine below_set ?_ ?_); rotate_left; focus (first | (simp; done) | (simp; omega)))))) (hN.below (by repeat (first | assumption | exact Below.refl _ _ | (with_reducible refine Below.drew ?_) | (with_reducible refine below_drewN' ?_ _) | (with_reducible refine below_al ?_) | ((with_reducible refine below_set ?_ ?_); rotate_left; focus (first | (simp; done) | (simp; omega)))))) (ia.below (by repeat (first | assumption | exact Below.refl _ _ | (with_reducible refine Below.drew ?_) | (with_reducible refine below_drewN' ?_ _) | (with_reducible refine below_al ?_) | ((with_reducible refine below_set ?_ ?_); rotate_left; focus (first | (simp; done) | (simp; omega)))))) (ia.below (by repeat (first | assumption | exact Below.refl _ _ | (with_reducible refine Below.drew ?_) | (with_reducible refine below_drewN' ?_ _) | (with_reducible refine below_al ?_) | ((with_reducible refine below_set ?_ ?_); rotate_left; focus (first | (simp; done) | (simp; omega))))))).mono ?_; rintro e w8 ⟨z, hz, icz, hmz, hb8, rfl⟩
  have Hz := Lib.hid hz; have HMz := Lib.hid hmz; clear hz hmz
  have hz8 := hb8.size; (try simp at hz8); obtain ⟨hc8, hf8⟩ := bcell hb8; have hB8 := below_step (w := w) hb8 (by repeat (first | assumption | exact Below.refl _ _ | (with_reducible refine Below.drew ?_) | (with_reducible refine below_drewN' ?_ _) | (with_reducible refine below_al ?_) | ((with_reducible refine below_set ?_ ?_); rotate_left; focus (first | (simp; done) | (simp; omega)))))
  have le_w_w8 : w.heap.size ≤ w8.heap.size := by omega
  try have lt_w_w8 : w.heap.size < w8.heap.size := by omega
  have ly_w_w8 : w.heap.size < w8.heap.size + 1 := by omega
  have le_w1_w8 : w1.heap.size ≤ w8.heap.size := by omega
  try have lt_w1_w8 : w1.heap.size < w8.heap.size := by omega
  have ly_w1_w8 : w1.heap.size < w8.heap.size + 1 := by omega
  have le_w2_w8 : w2.heap.size ≤ w8.heap.size := by omega
  try have lt_w2_w8 : w2.heap.size < w8.heap.size := by omega
  have ly_w2_w8 : w2.heap.size < w8.heap.size + 1 := by omega
  have le_w3_w8 : w3.heap.size ≤ w8.heap.size := by omega
  try have lt_w3_w8 : w3.heap.size < w8.heap.size := by omega
  have ly_w3_w8 : w3.heap.size < w8.heap.size + 1 := by omega
  have le_w4_w8 : w4.heap.size ≤ w8.heap.size := by omega
  try have lt_w4_w8 : w4.heap.size < w8.heap.size := by omega
  have ly_w4_w8 : w4.heap.size < w8.heap.size + 1 := by omega
  have le_w5_w8 : w5.heap.size ≤ w8.heap.size := by omega
  try have lt_w5_w8 : w5.heap.size < w8.heap.size := by omega
  have ly_w5_w8 : w5.heap.size < w8.heap.size + 1 := by omega
  have le_w6_w8 : w6.heap.size ≤ w8.heap.size := by omega
  try have lt_w6_w8 : w6.heap.size < w8.heap.size := by omega
  have ly_w6_w8 : w6.heap.size < w8.heap.size + 1 := by omega
  have le_w7_w8 : w7.heap.size ≤ w8.heap.size := by omega
  try have lt_w7_w8 : w7.heap.size < w8.heap.size := by omega
  have ly_w7_w8 : w7.heap.size < w8.heap.size + 1 := by omega
  have lx_w8 : w.heap.size + 1 < w8.heap.size := by omega
  have lz_w8 : w.heap.size + 1 < w8.heap.size + 1 := by omega
  (try go_simp); (repeat (first | ((with_reducible refine wp_region_app ?_); simp only [List.cons_append, List.nil_append]) | go_values | go_skip | go_guarded | go_step | go_upon))
  generalize hW : (w8.alloc _) = w9
  have hB9 : Below w.heap.size w w9 := by rw [← hW]; exact below_al hB8
  have Fa0 : Hid (w9.cell? ⟨w.heap.size, 0, none⟩ = some (.bool a.o0)) := Lib.hid (by rw [← hW]; exact cell_al (below_some hb8 _ _ _ (cell_al (below_some hb7 _ _ _ (cell_al (below_some hb6 _ _ _ (below_some hb5 _ _ _ (below_some hb4 _ _ _ (below_some hb3 _ _ _ (below_some hb2 _ _ _ (below_some hb1 _ _ _ (cell_al (cell_nu rfl rfl)))))))))))))
  have Fa1 : Hid (w9.cell? ⟨w.heap.size, 1, none⟩ = some (.bool a.o1)) := Lib.hid (by rw [← hW]; exact cell_al (below_some hb8 _ _ _ (cell_al (below_some hb7 _ _ _ (cell_al (below_some hb6 _ _ _ (below_some hb5 _ _ _ (below_some hb4 _ _ _ (below_some hb3 _ _ _ (below_some hb2 _ _ _ (below_some hb1 _ _ _ (cell_al (cell_nu rfl rfl)))))))))))))
  have Fa2 : Hid (w9.cell? ⟨w.heap.size, 2, none⟩ = some (.bool a.o2)) := Lib.hid (by rw [← hW]; exact cell_al (below_some hb8 _ _ _ (cell_al (below_some hb7 _ _ _ (cell_al (below_some hb6 _ _ _ (below_some hb5 _ _ _ (below_some hb4 _ _ _ (below_some hb3 _ _ _ (below_some hb2 _ _ _ (below_some hb1 _ _ _ (cell_al (cell_nu rfl rfl)))))))))))))
  have Fa3 : Hid (w9.cell? ⟨w.heap.size, 3, none⟩ = some (.bool a.o3)) := Lib.hid (by rw [← hW]; exact cell_al (below_some hb8 _ _ _ (cell_al (below_some hb7 _ _ _ (cell_al (below_some hb6 _ _ _ (below_some hb5 _ _ _ (below_some hb4 _ _ _ (below_some hb3 _ _ _ (below_some hb2 _ _ _ (below_some hb1 _ _ _ (cell_al (cell_nu rfl rfl)))))))))))))
  have Fa4 : Hid (w9.cell? ⟨w.heap.size, 4, none⟩ = some (.bool a.o4)) := Lib.hid (by rw [← hW]; exact cell_al (below_some hb8 _ _ _ (cell_al (below_some hb7 _ _ _ (cell_al (below_some hb6 _ _ _ (below_some hb5 _ _ _ (below_some hb4 _ _ _ (below_some hb3 _ _ _ (below_some hb2 _ _ _ (below_some hb1 _ _ _ (cell_al (cell_nu rfl rfl)))))))))))))
  have Fa5 : Hid (w9.cell? ⟨w.heap.size, 5, none⟩ = some (.bool a.o5)) := Lib.hid (by rw [← hW]; exact cell_al (below_some hb8 _ _ _ (cell_al (below_some hb7 _ _ _ (cell_al (below_some hb6 _ _ _ (below_some hb5 _ _ _ (below_some hb4 _ _ _ (below_some hb3 _ _ _ (below_some hb2 _ _ _ (below_some hb1 _ _ _ (cell_al (cell_nu rfl rfl)))))))))))))
  have Fa6 : Hid (w9.cell? ⟨w.heap.size, 6, none⟩ = some (.bool a.o6)) := Lib.hid (by rw [← hW]; exact cell_al (below_some hb8 _ _ _ (cell_al (below_some hb7 _ _ _ (cell_al (below_some hb6 _ _ _ (below_some hb5 _ _ _ (below_some hb4 _ _ _ (below_some hb3 _ _ _ (below_some hb2 _ _ _ (below_some hb1 _ _ _ (cell_al (cell_nu rfl rfl)))))))))))))
  have Fa7 : Hid (w9.cell? ⟨w.heap.size, 7, none⟩ = some (.slice a.A a.rs.length a.cR)) := Lib.hid (by rw [← hW]; exact cell_al (below_some hb8 _ _ _ (cell_al (below_some hb7 _ _ _ (cell_al (below_some hb6 _ _ _ (below_some hb5 _ _ _ (below_some hb4 _ _ _ (below_some hb3 _ _ _ (below_some hb2 _ _ _ (below_some hb1 _ _ _ (cell_al (cell_nu rfl rfl)))))))))))))
  have Fa8 : Hid (w9.cell? ⟨w.heap.size, 8, none⟩ = some (.slice a.D a.ds.length a.cD)) := Lib.hid (by rw [← hW]; exact cell_al (below_some hb8 _ _ _ (cell_al (below_some hb7 _ _ _ (cell_al (below_some hb6 _ _ _ (below_some hb5 _ _ _ (below_some hb4 _ _ _ (below_some hb3 _ _ _ (below_some hb2 _ _ _ (below_some hb1 _ _ _ (cell_al (cell_nu rfl rfl)))))))))))))
  have Fb0 : Hid (w9.cell? ⟨w.heap.size + 1, 0, none⟩ = some (.bool b.o0)) := Lib.hid (by rw [← hW]; exact cell_al (below_some hb8 _ _ _ (cell_al (below_some hb7 _ _ _ (cell_al (below_some hb6 _ _ _ (below_some hb5 _ _ _ (below_some hb4 _ _ _ (below_some hb3 _ _ _ (below_some hb2 _ _ _ (below_some hb1 _ _ _ (cell_nu (by simp) rfl))))))))))))
  have Fb1 : Hid (w9.cell? ⟨w.heap.size + 1, 1, none⟩ = some (.bool b.o1)) := Lib.hid (by rw [← hW]; exact cell_al (below_some hb8 _ _ _ (cell_al (below_some hb7 _ _ _ (cell_al (below_some hb6 _ _ _ (below_some hb5 _ _ _ (below_some hb4 _ _ _ (below_some hb3 _ _ _ (below_some hb2 _ _ _ (below_some hb1 _ _ _ (cell_nu (by simp) rfl))))))))))))
  have Fb2 : Hid (w9.cell? ⟨w.heap.size + 1, 2, none⟩ = some (.bool b.o2)) := Lib.hid (by rw [← hW]; exact cell_al (below_some hb8 _ _ _ (cell_al (below_some hb7 _ _ _ (cell_al (below_some hb6 _ _ _ (below_some hb5 _ _ _ (below_some hb4 _ _ _ (below_some hb3 _ _ _ (below_some hb2 _ _ _ (below_some hb1 _ _ _ (cell_nu (by simp) rfl))))))))))))
  have Fb3 : Hid (w9.cell? ⟨w.heap.size + 1, 3, none⟩ = some (.bool b.o3)) := Lib.hid (by rw [← hW]; exact cell_al (below_some hb8 _ _ _ (cell_al (below_some hb7 _ _ _ (cell_al (below_some hb6 _ _ _ (below_some hb5 _ _ _ (below_some hb4 _ _ _ (below_some hb3 _ _ _ (below_some hb2 _ _ _ (below_some hb1 _ _ _ (cell_nu (by simp) rfl))))))))))))
  have Fb4 : Hid (w9.cell? ⟨w.heap.size + 1, 4, none⟩ = some (.bool b.o4)) := Lib.hid (by rw [← hW]; exact cell_al (below_some hb8 _ _ _ (cell_al (below_some hb7 _ _ _ (cell_al (below_some hb6 _ _ _ (below_some hb5 _ _ _ (below_some hb4 _ _ _ (below_some hb3 _ _ _ (below_some hb2 _ _ _ (below_some hb1 _ _ _ (cell_nu (by simp) rfl))))))))))))
  have Fb5 : Hid (w9.cell? ⟨w.heap.size + 1, 5, none⟩ = some (.bool b.o5)) := Lib.hid (by rw [← hW]; exact cell_al (below_some hb8 _ _ _ (cell_al (below_some hb7 _ _ _ (cell_al (below_some hb6 _ _ _ (below_some hb5 _ _ _ (below_some hb4 _ _ _ (below_some hb3 _ _ _ (below_some hb2 _ _ _ (below_some hb1 _ _ _ (cell_nu (by simp) rfl))))))))))))
  have Fb6 : Hid (w9.cell? ⟨w.heap.size + 1, 6, none⟩ = some (.bool b.o6)) := Lib.hid (by rw [← hW]; exact cell_al (below_some hb8 _ _ _ (cell_al (below_some hb7 _ _ _ (cell_al (below_some hb6 _ _ _ (below_some hb5 _ _ _ (below_some hb4 _ _ _ (below_some hb3 _ _ _ (below_some hb2 _ _ _ (below_some hb1 _ _ _ (cell_nu (by simp) rfl))))))))))))
  have Fb7 : Hid (w9.cell? ⟨w.heap.size + 1, 7, none⟩ = some (.slice b.A b.rs.length b.cR)) := Lib.hid (by rw [← hW]; exact cell_al (below_some hb8 _ _ _ (cell_al (below_some hb7 _ _ _ (cell_al (below_some hb6 _ _ _ (below_some hb5 _ _ _ (below_some hb4 _ _ _ (below_some hb3 _ _ _ (below_some hb2 _ _ _ (below_some hb1 _ _ _ (cell_nu (by simp) rfl))))))))))))
  have Fb8 : Hid (w9.cell? ⟨w.heap.size + 1, 8, none⟩ = some (.slice b.D b.ds.length b.cD)) := Lib.hid (by rw [← hW]; exact cell_al (below_some hb8 _ _ _ (cell_al (below_some hb7 _ _ _ (cell_al (below_some hb6 _ _ _ (below_some hb5 _ _ _ (below_some hb4 _ _ _ (below_some hb3 _ _ _ (below_some hb2 _ _ _ (below_some hb1 _ _ _ (cell_nu (by simp) rfl))))))))))))
  have Fz0 : Hid (w9.cell? ⟨w8.heap.size, 0, none⟩ = some (.bool z.o0)) := Lib.hid (by rw [← hW]; exact cell_nu rfl rfl)
  have Fz1 : Hid (w9.cell? ⟨w8.heap.size, 1, none⟩ = some (.bool z.o1)) := Lib.hid (by rw [← hW]; exact cell_nu rfl rfl)
  have Fz2 : Hid (w9.cell? ⟨w8.heap.size, 2, none⟩ = some (.bool z.o2)) := Lib.hid (by rw [← hW]; exact cell_nu rfl rfl)
  have Fz3 : Hid (w9.cell? ⟨w8.heap.size, 3, none⟩ = some (.bool z.o3)) := Lib.hid (by rw [← hW]; exact cell_nu rfl rfl)
  have Fz4 : Hid (w9.cell? ⟨w8.heap.size, 4, none⟩ = some (.bool z.o4)) := Lib.hid (by rw [← hW]; exact cell_nu rfl rfl)
  have Fz5 : Hid (w9.cell? ⟨w8.heap.size, 5, none⟩ = some (.bool z.o5)) := Lib.hid (by rw [← hW]; exact cell_nu rfl rfl)
  have Fz6 : Hid (w9.cell? ⟨w8.heap.size, 6, none⟩ = some (.bool z.o6)) := Lib.hid (by rw [← hW]; exact cell_nu rfl rfl)
  have Fz7 : Hid (w9.cell? ⟨w8.heap.size, 7, none⟩ = some (.slice z.A z.rs.length z.cR)) := Lib.hid (by rw [← hW]; exact cell_nu rfl rfl)
  have Fz8 : Hid (w9.cell? ⟨w8.heap.size, 8, none⟩ = some (.slice z.D z.ds.length z.cD)) := Lib.hid (by rw [← hW]; exact cell_nu rfl rfl)
  have Fx0 : Hid (w9.cell? ⟨w6.heap.size, 0, none⟩ = some (.bool x.o0)) := Lib.hid (by rw [← hW]; exact cell_al (below_some hb8 _ _ _ (cell_al (below_some hb7 _ _ _ (cell_nu rfl rfl)))))
  have Fx1 : Hid (w9.cell? ⟨w6.heap.size, 1, none⟩ = some (.bool x.o1)) := Lib.hid (by rw [← hW]; exact cell_al (below_some hb8 _ _ _ (cell_al (below_some hb7 _ _ _ (cell_nu rfl rfl)))))
  have Fx2 : Hid (w9.cell? ⟨w6.heap.size, 2, none⟩ = some (.bool x.o2)) := Lib.hid (by rw [← hW]; exact cell_al (below_some hb8 _ _ _ (cell_al (below_some hb7 _ _ _ (cell_nu rfl rfl)))))
  have Fx3 : Hid (w9.cell? ⟨w6.heap.size, 3, none⟩ = some (.bool x.o3)) := Lib.hid (by rw [← hW]; exact cell_al (below_some hb8 _ _ _ (cell_al (below_some hb7 _ _ _ (cell_nu rfl rfl)))))
  have Fx4 : Hid (w9.cell? ⟨w6.heap.size, 4, none⟩ = some (.bool x.o4)) := Lib.hid (by rw [← hW]; exact cell_al (below_some hb8 _ _ _ (cell_al (below_some hb7 _ _ _ (cell_nu rfl rfl)))))
  have Fx5 : Hid (w9.cell? ⟨w6.heap.size, 5, none⟩ = some (.bool x.o5)) := Lib.hid (by rw [← hW]; exact cell_al (below_some hb8 _ _ _ (cell_al (below_some hb7 _ _ _ (cell_nu rfl rfl)))))
  have Fx6 : Hid (w9.cell? ⟨w6.heap.size, 6, none⟩ = some (.bool x.o6)) := Lib.hid (by rw [← hW]; exact cell_al (below_some hb8 _ _ _ (cell_al (below_some hb7 _ _ _ (cell_nu rfl rfl)))))
  have Fx7 : Hid (w9.cell? ⟨w6.heap.size, 7, none⟩ = some (.slice x.A x.rs.length x.cR)) := Lib.hid (by rw [← hW]; exact cell_al (below_some hb8 _ _ _ (cell_al (below_some hb7 _ _ _ (cell_nu rfl rfl)))))
  have Fx8 : Hid (w9.cell? ⟨w6.heap.size, 8, none⟩ = some (.slice x.D x.ds.length x.cD)) := Lib.hid (by rw [← hW]; exact cell_al (below_some hb8 _ _ _ (cell_al (below_some hb7 _ _ _ (cell_nu rfl rfl)))))
  have Fy0 : Hid (w9.cell? ⟨w7.heap.size, 0, none⟩ = some (.bool y.o0)) := Lib.hid (by rw [← hW]; exact cell_al (below_some hb8 _ _ _ (cell_nu rfl rfl)))
  have Fy1 : Hid (w9.cell? ⟨w7.heap.size, 1, none⟩ = some (.bool y.o1)) := Lib.hid (by rw [← hW]; exact cell_al (below_some hb8 _ _ _ (cell_nu rfl rfl)))
  have Fy2 : Hid (w9.cell? ⟨w7.heap.size, 2, none⟩ = some (.bool y.o2)) := Lib.hid (by rw [← hW]; exact cell_al (below_some hb8 _ _ _ (cell_nu rfl rfl)))
  have Fy3 : Hid (w9.cell? ⟨w7.heap.size, 3, none⟩ = some (.bool y.o3)) := Lib.hid (by rw [← hW]; exact cell_al (below_some hb8 _ _ _ (cell_nu rfl rfl)))
  have Fy4 : Hid (w9.cell? ⟨w7.heap.size, 4, none⟩ = some (.bool y.o4)) := Lib.hid (by rw [← hW]; exact cell_al (below_some hb8 _ _ _ (cell_nu rfl rfl)))
  have Fy5 : Hid (w9.cell? ⟨w7.heap.size, 5, none⟩ = some (.bool y.o5)) := Lib.hid (by rw [← hW]; exact cell_al (below_some hb8 _ _ _ (cell_nu rfl rfl)))
  have Fy6 : Hid (w9.cell? ⟨w7.heap.size, 6, none⟩ = some (.bool y.o6)) := Lib.hid (by rw [← hW]; exact cell_al (below_some hb8 _ _ _ (cell_nu rfl rfl)))
  have Fy7 : Hid (w9.cell? ⟨w7.heap.size, 7, none⟩ = some (.slice y.A y.rs.length y.cR)) := Lib.hid (by rw [← hW]; exact cell_al (below_some hb8 _ _ _ (cell_nu rfl rfl)))
  have Fy8 : Hid (w9.cell? ⟨w7.heap.size, 8, none⟩ = some (.slice y.D y.ds.length y.cD)) := Lib.hid (by rw [← hW]; exact cell_al (below_some hb8 _ _ _ (cell_nu rfl rfl)))
  have hL9 := Lib.hid (hL.below hB9); have hN9 := Lib.hid (hN.below hB9); have ia9 := Lib.hid (ia.below hB9); have ib9 := Lib.hid (ib.below hB9)
  have iz9 : Hid (CalIn w9 z) := Lib.hid (by rw [← hW]; exact icz.below (below_al (Below.refl _ _)))
  have okz := Lib.hid (CalP.ok HMz.out)
  have ez : Hid (z.is n = a.is n) := Lib.hid ((uni_is Hz.out n).trans (Bool.and_self _))
  have ix9 : Hid (CalIn w9 x) := Lib.hid (by rw [← hW]; exact icx.below (below_step (w := w6) hb7 (below_al (Below.refl _ _)) |> fun h => below_al (below_step (w := w6) hb8 (below_al h))))
  have iy9 : Hid (CalIn w9 y) := Lib.hid (by rw [← hW]; exact icy.below (below_al (below_step (w := w7) hb8 (below_al (Below.refl _ _)))))
  have okx := Lib.hid (CalP.ok HMx.out); have oky := Lib.hid (CalP.ok HMy.out)
  have ex : Hid (x.is n = (a.is n && b.is n)) := Lib.hid (uni_is Hx.out n)
  have ey : Hid (y.is n = (a.is n && b.is n)) := Lib.hid ((uni_is Hy.out n).trans (Bool.and_comm _ _))
  clear hW ia ib hL hN icz icx icy
  clear hc1 hf1 hc2 hf2 hc3 hf3 hc4 hf4 hc5 hf5 hc6 hf6 hc7 hf7 hc8 hf8
  try clear lx_w
  try clear lz_w
  try clear le_w_w1
  try clear lt_w_w1
  try clear le1_w_w1
  try clear lt1_w_w1
  try clear ly_w_w1
  try clear lx_w1
  try clear lz_w1
  try clear le_w_w2
  try clear lt_w_w2
  try clear le1_w_w2
  try clear lt1_w_w2
  try clear ly_w_w2
  try clear le_w1_w2
  try clear lt_w1_w2
  try clear le1_w1_w2
  try clear lt1_w1_w2
  try clear ly_w1_w2
  try clear lx_w2
  try clear lz_w2
  try clear le_w_w3
  try clear lt_w_w3
  try clear le1_w_w3
  try clear lt1_w_w3
  try clear ly_w_w3
  try clear le_w1_w3
  try clear lt_w1_w3
  try clear le1_w1_w3
  try clear lt1_w1_w3
  try clear ly_w1_w3
  try clear le_w2_w3
  try clear lt_w2_w3
  try clear le1_w2_w3
  try clear lt1_w2_w3
  try clear ly_w2_w3
  try clear lx_w3
  try clear lz_w3
  try clear le_w_w4
  try clear lt_w_w4
  try clear le1_w_w4
  try clear lt1_w_w4
  try clear ly_w_w4
  try clear le_w1_w4
  try clear lt_w1_w4
  try clear le1_w1_w4
  try clear lt1_w1_w4
  try clear ly_w1_w4
  try clear le_w2_w4
  try clear lt_w2_w4
  try clear le1_w2_w4
  try clear lt1_w2_w4
  try clear ly_w2_w4
  try clear le_w3_w4
  try clear lt_w3_w4
  try clear le1_w3_w4
  try clear lt1_w3_w4
  try clear ly_w3_w4
  try clear lx_w4
  try clear lz_w4
  try clear le_w_w5
  try clear lt_w_w5
  try clear le1_w_w5
  try clear lt1_w_w5
  try clear ly_w_w5
  try clear le_w1_w5
  try clear lt_w1_w5
  try clear le1_w1_w5
  try clear lt1_w1_w5
  try clear ly_w1_w5
  try clear le_w2_w5
  try clear lt_w2_w5
  try clear le1_w2_w5
  try clear lt1_w2_w5
  try clear ly_w2_w5
  try clear le_w3_w5
  try clear lt_w3_w5
  try clear le1_w3_w5
  try clear lt1_w3_w5
  try clear ly_w3_w5
  try clear le_w4_w5
  try clear lt_w4_w5
  try clear le1_w4_w5
  try clear lt1_w4_w5
  try clear ly_w4_w5
  try clear lx_w5
  try clear lz_w5
  try clear le_w_w6
  try clear lt_w_w6
  try clear le1_w_w6
  try clear lt1_w_w6
  try clear ly_w_w6
  try clear le_w1_w6
  try clear lt_w1_w6
  try clear le1_w1_w6
  try clear lt1_w1_w6
  try clear ly_w1_w6
  try clear le_w2_w6
  try clear lt_w2_w6
  try clear le1_w2_w6
  try clear lt1_w2_w6
  try clear ly_w2_w6
  try clear le_w3_w6
  try clear lt_w3_w6
  try clear le1_w3_w6
  try clear lt1_w3_w6
  try clear ly_w3_w6
  try clear le_w4_w6
  try clear lt_w4_w6
  try clear le1_w4_w6
  try clear lt1_w4_w6
  try clear ly_w4_w6
  try clear le_w5_w6
  try clear lt_w5_w6
  try clear le1_w5_w6
  try clear lt1_w5_w6
  try clear ly_w5_w6
  try clear lx_w6
  try clear lz_w6
  try clear le_w_w7
  try clear lt_w_w7
  try clear le1_w_w7
  try clear lt1_w_w7
  try clear ly_w_w7
  try clear le_w1_w7
  try clear lt_w1_w7
  try clear le1_w1_w7
  try clear lt1_w1_w7
  try clear ly_w1_w7
  try clear le_w2_w7
  try clear lt_w2_w7
  try clear le1_w2_w7
  try clear lt1_w2_w7
  try clear ly_w2_w7
  try clear le_w3_w7
  try clear lt_w3_w7
  try clear le1_w3_w7
  try clear lt1_w3_w7
  try clear ly_w3_w7
  try clear le_w4_w7
  try clear lt_w4_w7
  try clear le1_w4_w7
  try clear lt1_w4_w7
  try clear ly_w4_w7
  try clear le_w5_w7
  try clear lt_w5_w7
  try clear le1_w5_w7
  try clear lt1_w5_w7
  try clear ly_w5_w7
  try clear le_w6_w7
  try clear lt_w6_w7
  try clear le1_w6_w7
  try clear lt1_w6_w7
  try clear ly_w6_w7
  try clear lx_w7
  try clear lz_w7
  try clear le_w_w8
  try clear lt_w_w8
  try clear le1_w_w8
  try clear lt1_w_w8
  try clear ly_w_w8
  try clear le_w1_w8
  try clear lt_w1_w8
  try clear le1_w1_w8
  try clear lt1_w1_w8
  try clear ly_w1_w8
  try clear le_w2_w8
  try clear lt_w2_w8
  try clear le1_w2_w8
  try clear lt1_w2_w8
  try clear ly_w2_w8
  try clear le_w3_w8
  try clear lt_w3_w8
  try clear le1_w3_w8
  try clear lt1_w3_w8
  try clear ly_w3_w8
  try clear le_w4_w8
  try clear lt_w4_w8
  try clear le1_w4_w8
  try clear lt1_w4_w8
  try clear ly_w4_w8
  try clear le_w5_w8
  try clear lt_w5_w8
  try clear le1_w5_w8
  try clear lt1_w5_w8
  try clear ly_w5_w8
  try clear le_w6_w8
  try clear lt_w6_w8
  try clear le1_w6_w8
  try clear lt1_w6_w8
  try clear ly_w6_w8
  try clear le_w7_w8
  try clear lt_w7_w8
  try clear le1_w7_w8
  try clear lt1_w7_w8
  try clear ly_w7_w8
  try clear lx_w8
  try clear lz_w8
  try clear hB1
  try clear hb1
  try clear hz1
  try clear hB2
  try clear hb2
  try clear hz2
  try clear hB3
  try clear hb3
  try clear hz3
  try clear hB4
  try clear hb4
  try clear hz4
  try clear hB5
  try clear hb5
  try clear hz5
  try clear hB6
  try clear hb6
  try clear hz6
  try clear hB7
  try clear hb7
  try clear hz7
  try clear hB8
  try clear hb8
  try clear hz8
  have HKA := hka; have ez2 := ez.out; rw [ha] at ez2
  have cl0 : w9.cell? ⟨w8.heap.size, 0, none⟩ = some (.bool z.o0) := Fz0.out
  have cl1 : w9.cell? ⟨w8.heap.size, 1, none⟩ = some (.bool z.o1) := Fz1.out
  have cl2 : w9.cell? ⟨w8.heap.size, 2, none⟩ = some (.bool z.o2) := Fz2.out
  have cl3 : w9.cell? ⟨w8.heap.size, 3, none⟩ = some (.bool z.o3) := Fz3.out
  have cl4 : w9.cell? ⟨w8.heap.size, 4, none⟩ = some (.bool z.o4) := Fz4.out
  have cl5 : w9.cell? ⟨w8.heap.size, 5, none⟩ = some (.bool z.o5) := Fz5.out
  have cl6 : w9.cell? ⟨w8.heap.size, 6, none⟩ = some (.bool z.o6) := Fz6.out
  have cl7 : w9.cell? ⟨w8.heap.size, 7, none⟩ = some (.slice z.A z.rs.length z.cR) := Fz7.out
  have cl8 : w9.cell? ⟨w8.heap.size, 8, none⟩ = some (.slice z.D z.ds.length z.cD) := Fz8.out
  have cl9 : w9.cell? ⟨w.heap.size, 0, none⟩ = some (.bool a.o0) := Fa0.out
  have cl10 : w9.cell? ⟨w.heap.size, 1, none⟩ = some (.bool a.o1) := Fa1.out
  have cl11 : w9.cell? ⟨w.heap.size, 2, none⟩ = some (.bool a.o2) := Fa2.out
  have cl12 : w9.cell? ⟨w.heap.size, 3, none⟩ = some (.bool a.o3) := Fa3.out
  have cl13 : w9.cell? ⟨w.heap.size, 4, none⟩ = some (.bool a.o4) := Fa4.out
  have cl14 : w9.cell? ⟨w.heap.size, 5, none⟩ = some (.bool a.o5) := Fa5.out
  have cl15 : w9.cell? ⟨w.heap.size, 6, none⟩ = some (.bool a.o6) := Fa6.out
  have cl16 : w9.cell? ⟨w.heap.size, 7, none⟩ = some (.slice a.A a.rs.length a.cR) := Fa7.out
  have cl17 : w9.cell? ⟨w.heap.size, 8, none⟩ = some (.slice a.D a.ds.length a.cD) := Fa8.out
  have hRefl : Below w9.heap.size w9 w9 := Below.refl _ _
  have HS : Hid (∀ W, Below w9.heap.size w9 W → (fun W' => Below w9.heap.size w9 W' ∧ W'.cell? ⟨w8.heap.size, 0, none⟩ = some (.bool z.o0) ∧ W'.cell? ⟨w8.heap.size, 1, none⟩ = some (.bool z.o1) ∧ W'.cell? ⟨w8.heap.size, 2, none⟩ = some (.bool z.o2) ∧ W'.cell? ⟨w8.heap.size, 3, none⟩ = some (.bool z.o3) ∧ W'.cell? ⟨w8.heap.size, 4, none⟩ = some (.bool z.o4) ∧ W'.cell? ⟨w8.heap.size, 5, none⟩ = some (.bool z.o5) ∧ W'.cell? ⟨w8.heap.size, 6, none⟩ = some (.bool z.o6) ∧ W'.cell? ⟨w8.heap.size, 7, none⟩ = some (.slice z.A z.rs.length z.cR) ∧ W'.cell? ⟨w8.heap.size, 8, none⟩ = some (.slice z.D z.ds.length z.cD) ∧ W'.cell? ⟨w.heap.size, 0, none⟩ = some (.bool a.o0) ∧ W'.cell? ⟨w.heap.size, 1, none⟩ = some (.bool a.o1) ∧ W'.cell? ⟨w.heap.size, 2, none⟩ = some (.bool a.o2) ∧ W'.cell? ⟨w.heap.size, 3, none⟩ = some (.bool a.o3) ∧ W'.cell? ⟨w.heap.size, 4, none⟩ = some (.bool a.o4) ∧ W'.cell? ⟨w.heap.size, 5, none⟩ = some (.bool a.o5) ∧ W'.cell? ⟨w.heap.size, 6, none⟩ = some (.bool a.o6) ∧ W'.cell? ⟨w.heap.size, 7, none⟩ = some (.slice a.A a.rs.length a.cR) ∧ W'.cell? ⟨w.heap.size, 8, none⟩ = some (.slice a.D a.ds.length a.cD)) W) := Lib.hid (fun W h => ⟨h, below_some h _ _ _ cl0, below_some h _ _ _ cl1, below_some h _ _ _ cl2, below_some h _ _ _ cl3, below_some h _ _ _ cl4, below_some h _ _ _ cl5, below_some h _ _ _ cl6, below_some h _ _ _ cl7, below_some h _ _ _ cl8, below_some h _ _ _ cl9, below_some h _ _ _ cl10, below_some h _ _ _ cl11, below_some h _ _ _ cl12, below_some h _ _ _ cl13, below_some h _ _ _ cl14, below_some h _ _ _ cl15, below_some h _ _ _ cl16, below_some h _ _ _ cl17⟩)
  go_region_held3 (fun W' => Below w9.heap.size w9 W' ∧ W'.cell? ⟨w8.heap.size, 0, none⟩ = some (.bool z.o0) ∧ W'.cell? ⟨w8.heap.size, 1, none⟩ = some (.bool z.o1) ∧ W'.cell? ⟨w8.heap.size, 2, none⟩ = some (.bool z.o2) ∧ W'.cell? ⟨w8.heap.size, 3, none⟩ = some (.bool z.o3) ∧ W'.cell? ⟨w8.heap.size, 4, none⟩ = some (.bool z.o4) ∧ W'.cell? ⟨w8.heap.size, 5, none⟩ = some (.bool z.o5) ∧ W'.cell? ⟨w8.heap.size, 6, none⟩ = some (.bool z.o6) ∧ W'.cell? ⟨w8.heap.size, 7, none⟩ = some (.slice z.A z.rs.length z.cR) ∧ W'.cell? ⟨w8.heap.size, 8, none⟩ = some (.slice z.D z.ds.length z.cD) ∧ W'.cell? ⟨w.heap.size, 0, none⟩ = some (.bool a.o0) ∧ W'.cell? ⟨w.heap.size, 1, none⟩ = some (.bool a.o1) ∧ W'.cell? ⟨w.heap.size, 2, none⟩ = some (.bool a.o2) ∧ W'.cell? ⟨w.heap.size, 3, none⟩ = some (.bool a.o3) ∧ W'.cell? ⟨w.heap.size, 4, none⟩ = some (.bool a.o4) ∧ W'.cell? ⟨w.heap.size, 5, none⟩ = some (.bool a.o5) ∧ W'.cell? ⟨w.heap.size, 6, none⟩ = some (.bool a.o6) ∧ W'.cell? ⟨w.heap.size, 7, none⟩ = some (.slice a.A a.rs.length a.cR) ∧ W'.cell? ⟨w.heap.size, 8, none⟩ = some (.slice a.D a.ds.length a.cD)) ((refine HS.out _ ?_; repeat (first | (with_reducible assumption) | (with_reducible exact Below.refl _ _) | (with_reducible refine Below.drew ?_) | (with_reducible refine below_drewN' ?_ _) | (with_reducible refine below_al ?_) | ((with_reducible refine below_set ?_ ?_); rotate_left; focus (first | (simp; done) | (simp; omega)))))) (first | (go_at_call_of 36 (Value.agg #[.bool z.o0, .bool z.o1, .bool z.o2, .bool z.o3, .bool z.o4, .bool z.o5, .bool z.o6, .slice z.A z.rs.length z.cR, .slice z.D z.ds.length z.cD]); refine (calIs_c z n okz.out _ (hL9.out.below (by repeat (first | (with_reducible assumption) | (with_reducible exact Below.refl _ _) | (with_reducible refine Below.drew ?_) | (with_reducible refine below_drewN' ?_ _) | (with_reducible refine below_al ?_) | ((with_reducible refine below_set ?_ ?_); rotate_left; focus (first | (simp; done) | (simp; omega)))))) (iz9.out.below (by repeat (first | (with_reducible assumption) | (with_reducible exact Below.refl _ _) | (with_reducible refine Below.drew ?_) | (with_reducible refine below_drewN' ?_ _) | (with_reducible refine below_al ?_) | ((with_reducible refine below_set ?_ ?_); rotate_left; focus (first | (simp; done) | (simp; omega))))))).mono ?_; rintro e wq ⟨rfl, hbq⟩; have hBq := below_step (w := w9) hbq (by repeat (first | (with_reducible assumption) | (with_reducible exact Below.refl _ _) | (with_reducible refine Below.drew ?_) | (with_reducible refine below_drewN' ?_ _) | (with_reducible refine below_al ?_) | ((with_reducible refine below_set ?_ ?_); rotate_left; focus (first | (simp; done) | (simp; omega)))))) | (go_at_call_of 36 (Value.agg #[.bool a.o0, .bool a.o1, .bool a.o2, .bool a.o3, .bool a.o4, .bool a.o5, .bool a.o6, .slice a.A a.rs.length a.cR, .slice a.D a.ds.length a.cD]); refine (calIs_c a n hka.out _ (hL9.out.below (by repeat (first | (with_reducible assumption) | (with_reducible exact Below.refl _ _) | (with_reducible refine Below.drew ?_) | (with_reducible refine below_drewN' ?_ _) | (with_reducible refine below_al ?_) | ((with_reducible refine below_set ?_ ?_); rotate_left; focus (first | (simp; done) | (simp; omega)))))) (ia9.out.below (by repeat (first | (with_reducible assumption) | (with_reducible exact Below.refl _ _) | (with_reducible refine Below.drew ?_) | (with_reducible refine below_drewN' ?_ _) | (with_reducible refine below_al ?_) | ((with_reducible refine below_set ?_ ?_); rotate_left; focus (first | (simp; done) | (simp; omega))))))).mono ?_; rintro e wq ⟨rfl, hbq⟩; have hBq := below_step (w := w9) hbq (by repeat (first | (with_reducible assumption) | (with_reducible exact Below.refl _ _) | (with_reducible refine Below.drew ?_) | (with_reducible refine below_drewN' ?_ _) | (with_reducible refine below_al ?_) | ((with_reducible refine below_set ?_ ?_); rotate_left; focus (first | (simp; done) | (simp; omega)))))))
  have h9 := Lib.hid hBq; clear cl0 cl1 cl2 cl3 cl4 cl5 cl6 cl7 cl8 cl9 cl10 cl11 cl12 cl13 cl14 cl15 cl16 cl17
  have da0 := below_some h9.out _ _ _ Fa0.out
  have da1 := below_some h9.out _ _ _ Fa1.out
  have da2 := below_some h9.out _ _ _ Fa2.out
  have da3 := below_some h9.out _ _ _ Fa3.out
  have da4 := below_some h9.out _ _ _ Fa4.out
  have da5 := below_some h9.out _ _ _ Fa5.out
  have da6 := below_some h9.out _ _ _ Fa6.out
  have da7 := below_some h9.out _ _ _ Fa7.out
  have da8 := below_some h9.out _ _ _ Fa8.out
  (try go_simp); (repeat (first | ((with_reducible refine wp_region_app ?_); simp only [List.cons_append, List.nil_append]) | go_values | go_skip | go_guarded | go_step | go_upon))
  refine (calIs_c a n hka.out _ (hL9.out.below (by have h9 := h9.out; repeat (first | (with_reducible assumption) | (with_reducible exact Below.refl _ _) | (with_reducible refine Below.drew ?_) | (with_reducible refine below_drewN' ?_ _) | (with_reducible refine below_al ?_) | ((with_reducible refine below_set ?_ ?_); rotate_left; focus (first | (simp; done) | (simp; omega)))))) (ia9.out.below (by have h9 := h9.out; repeat (first | (with_reducible assumption) | (with_reducible exact Below.refl _ _) | (with_reducible refine Below.drew ?_) | (with_reducible refine below_drewN' ?_ _) | (with_reducible refine below_al ?_) | ((with_reducible refine below_set ?_ ?_); rotate_left; focus (first | (simp; done) | (simp; omega))))))).mono ?_; rintro e w10 ⟨rfl, hb⟩
  have h9' := Lib.hid (below_step (w := w9) hb (by have h9 := h9.out; repeat (first | (with_reducible assumption) | (with_reducible exact Below.refl _ _) | (with_reducible refine Below.drew ?_) | (with_reducible refine below_drewN' ?_ _) | (with_reducible refine below_al ?_) | ((with_reducible refine below_set ?_ ?_); rotate_left; focus (first | (simp; done) | (simp; omega)))))); clear h9; have h9 := h9'; clear h9' hb
  clear da0 da1 da2 da3 da4 da5 da6 da7 da8
  have db0 := below_some h9.out _ _ _ Fb0.out
  have db1 := below_some h9.out _ _ _ Fb1.out
  have db2 := below_some h9.out _ _ _ Fb2.out
  have db3 := below_some h9.out _ _ _ Fb3.out
  have db4 := below_some h9.out _ _ _ Fb4.out
  have db5 := below_some h9.out _ _ _ Fb5.out
  have db6 := below_some h9.out _ _ _ Fb6.out
  have db7 := below_some h9.out _ _ _ Fb7.out
  have db8 := below_some h9.out _ _ _ Fb8.out
  (try go_simp); (repeat (first | ((with_reducible refine wp_region_app ?_); simp only [List.cons_append, List.nil_append]) | go_values | go_skip | go_guarded | go_step | go_upon))
  refine (calIs_c b n hkb.out _ (hL9.out.below (by have h9 := h9.out; repeat (first | (with_reducible assumption) | (with_reducible exact Below.refl _ _) | (with_reducible refine Below.drew ?_) | (with_reducible refine below_drewN' ?_ _) | (with_reducible refine below_al ?_) | ((with_reducible refine below_set ?_ ?_); rotate_left; focus (first | (simp; done) | (simp; omega)))))) (ib9.out.below (by have h9 := h9.out; repeat (first | (with_reducible assumption) | (with_reducible exact Below.refl _ _) | (with_reducible refine Below.drew ?_) | (with_reducible refine below_drewN' ?_ _) | (with_reducible refine below_al ?_) | ((with_reducible refine below_set ?_ ?_); rotate_left; focus (first | (simp; done) | (simp; omega))))))).mono ?_; rintro e w11 ⟨rfl, hb⟩
  have h9' := Lib.hid (below_step (w := w9) hb (by have h9 := h9.out; repeat (first | (with_reducible assumption) | (with_reducible exact Below.refl _ _) | (with_reducible refine Below.drew ?_) | (with_reducible refine below_drewN' ?_ _) | (with_reducible refine below_al ?_) | ((with_reducible refine below_set ?_ ?_); rotate_left; focus (first | (simp; done) | (simp; omega)))))); clear h9; have h9 := h9'; clear h9' hb
  clear db0 db1 db2 db3 db4 db5 db6 db7 db8
  have ex2 := ex.out; rw [ha, hbv] at ex2; have ey2 := ey.out; rw [ha, hbv] at ey2; have mx := HMx.out
  have dx0 := below_some h9.out _ _ _ Fx0.out
  have dx1 := below_some h9.out _ _ _ Fx1.out
  have dx2 := below_some h9.out _ _ _ Fx2.out
  have dx3 := below_some h9.out _ _ _ Fx3.out
  have dx4 := below_some h9.out _ _ _ Fx4.out
  have dx5 := below_some h9.out _ _ _ Fx5.out
  have dx6 := below_some h9.out _ _ _ Fx6.out
  have dx7 := below_some h9.out _ _ _ Fx7.out
  have dx8 := below_some h9.out _ _ _ Fx8.out
  (try go_simp); (repeat (first | ((with_reducible refine wp_region_app ?_); simp only [List.cons_append, List.nil_append]) | go_values | go_skip | go_guarded | go_step | go_upon))
  refine (calMay_c x _ (hL9.out.below (by have h9 := h9.out; repeat (first | (with_reducible assumption) | (with_reducible exact Below.refl _ _) | (with_reducible refine Below.drew ?_) | (with_reducible refine below_drewN' ?_ _) | (with_reducible refine below_al ?_) | ((with_reducible refine below_set ?_ ?_); rotate_left; focus (first | (simp; done) | (simp; omega)))))) (hN9.out.below (by have h9 := h9.out; repeat (first | (with_reducible assumption) | (with_reducible exact Below.refl _ _) | (with_reducible refine Below.drew ?_) | (with_reducible refine below_drewN' ?_ _) | (with_reducible refine below_al ?_) | ((with_reducible refine below_set ?_ ?_); rotate_left; focus (first | (simp; done) | (simp; omega)))))) (ix9.out.below (by have h9 := h9.out; repeat (first | (with_reducible assumption) | (with_reducible exact Below.refl _ _) | (with_reducible refine Below.drew ?_) | (with_reducible refine below_drewN' ?_ _) | (with_reducible refine below_al ?_) | ((with_reducible refine below_set ?_ ?_); rotate_left; focus (first | (simp; done) | (simp; omega))))))).mono ?_; rintro e w12 ⟨rfl, hb⟩
  have h9' := Lib.hid (below_step (w := w9) hb (by have h9 := h9.out; repeat (first | (with_reducible assumption) | (with_reducible exact Below.refl _ _) | (with_reducible refine Below.drew ?_) | (with_reducible refine below_drewN' ?_ _) | (with_reducible refine below_al ?_) | ((with_reducible refine below_set ?_ ?_); rotate_left; focus (first | (simp; done) | (simp; omega)))))); clear h9; have h9 := h9'; clear h9' hb
  clear dx0 dx1 dx2 dx3 dx4 dx5 dx6 dx7 dx8
  have dx0 := below_some h9.out _ _ _ Fx0.out
  have dx1 := below_some h9.out _ _ _ Fx1.out
  have dx2 := below_some h9.out _ _ _ Fx2.out
  have dx3 := below_some h9.out _ _ _ Fx3.out
  have dx4 := below_some h9.out _ _ _ Fx4.out
  have dx5 := below_some h9.out _ _ _ Fx5.out
  have dx6 := below_some h9.out _ _ _ Fx6.out
  have dx7 := below_some h9.out _ _ _ Fx7.out
  have dx8 := below_some h9.out _ _ _ Fx8.out
  (try go_simp); (repeat (first | ((with_reducible refine wp_region_app ?_); simp only [List.cons_append, List.nil_append]) | go_values | go_skip | go_guarded | go_step | go_upon))
  refine (calIs_c x n okx.out _ (hL9.out.below (by have h9 := h9.out; repeat (first | (with_reducible assumption) | (with_reducible exact Below.refl _ _) | (with_reducible refine Below.drew ?_) | (with_reducible refine below_drewN' ?_ _) | (with_reducible refine below_al ?_) | ((with_reducible refine below_set ?_ ?_); rotate_left; focus (first | (simp; done) | (simp; omega)))))) (ix9.out.below (by have h9 := h9.out; repeat (first | (with_reducible assumption) | (with_reducible exact Below.refl _ _) | (with_reducible refine Below.drew ?_) | (with_reducible refine below_drewN' ?_ _) | (with_reducible refine below_al ?_) | ((with_reducible refine below_set ?_ ?_); rotate_left; focus (first | (simp; done) | (simp; omega))))))).mono ?_; rintro e w13 ⟨rfl, hb⟩
  have h9' := Lib.hid (below_step (w := w9) hb (by have h9 := h9.out; repeat (first | (with_reducible assumption) | (with_reducible exact Below.refl _ _) | (with_reducible refine Below.drew ?_) | (with_reducible refine below_drewN' ?_ _) | (with_reducible refine below_al ?_) | ((with_reducible refine below_set ?_ ?_); rotate_left; focus (first | (simp; done) | (simp; omega)))))); clear h9; have h9 := h9'; clear h9' hb
  clear dx0 dx1 dx2 dx3 dx4 dx5 dx6 dx7 dx8
  have dy0 := below_some h9.out _ _ _ Fy0.out
  have dy1 := below_some h9.out _ _ _ Fy1.out
  have dy2 := below_some h9.out _ _ _ Fy2.out
  have dy3 := below_some h9.out _ _ _ Fy3.out
  have dy4 := below_some h9.out _ _ _ Fy4.out
  have dy5 := below_some h9.out _ _ _ Fy5.out
  have dy6 := below_some h9.out _ _ _ Fy6.out
  have dy7 := below_some h9.out _ _ _ Fy7.out
  have dy8 := below_some h9.out _ _ _ Fy8.out
  (try go_simp); (repeat (first | ((with_reducible refine wp_region_app ?_); simp only [List.cons_append, List.nil_append]) | go_values | go_skip | go_guarded | go_step | go_upon))
  refine (calIs_c y n oky.out _ (hL9.out.below (by have h9 := h9.out; repeat (first | (with_reducible assumption) | (with_reducible exact Below.refl _ _) | (with_reducible refine Below.drew ?_) | (with_reducible refine below_drewN' ?_ _) | (with_reducible refine below_al ?_) | ((with_reducible refine below_set ?_ ?_); rotate_left; focus (first | (simp; done) | (simp; omega)))))) (iy9.out.below (by have h9 := h9.out; repeat (first | (with_reducible assumption) | (with_reducible exact Below.refl _ _) | (with_reducible refine Below.drew ?_) | (with_reducible refine below_drewN' ?_ _) | (with_reducible refine below_al ?_) | ((with_reducible refine below_set ?_ ?_); rotate_left; focus (first | (simp; done) | (simp; omega))))))).mono ?_; rintro e w14 ⟨rfl, hb⟩
  have h9' := Lib.hid (below_step (w := w9) hb (by have h9 := h9.out; repeat (first | (with_reducible assumption) | (with_reducible exact Below.refl _ _) | (with_reducible refine Below.drew ?_) | (with_reducible refine below_drewN' ?_ _) | (with_reducible refine below_al ?_) | ((with_reducible refine below_set ?_ ?_); rotate_left; focus (first | (simp; done) | (simp; omega)))))); clear h9; have h9 := h9'; clear h9' hb
  clear dy0 dy1 dy2 dy3 dy4 dy5 dy6 dy7 dy8
  (try go_simp); (repeat (first | ((with_reducible refine wp_region_app ?_); simp only [List.cons_append, List.nil_append]) | go_values | go_skip | go_guarded | go_step | go_upon))
  go_ret
  exact ⟨rfl, hB9.trans (h9.out.mono hB9.size)⟩
set_option maxRecDepth 100000 in
set_option maxHeartbeats 8000000 in
theorem calBoth_tf (a b : CalP) (n : Int) (fa : a.few = true) (fb : b.few = true) (ma : a.may = true) (mb : b.may = true) (uab : uopen a b = true) (vb : Bool) (ha : a.is n = true) (hbv : b.is n = false) (w : World) (hL : Laid w) (hN : AllOff w) (ia : CalIn w a) (ib : CalIn w b) : Calls Tryd.prog 11 #[.agg #[.bool a.o0, .bool a.o1, .bool a.o2, .bool a.o3, .bool a.o4, .bool a.o5, .bool a.o6, .slice a.A a.rs.length a.cR, .slice a.D a.ds.length a.cD], .agg #[.bool b.o0, .bool b.o1, .bool b.o2, .bool b.o3, .bool b.o4, .bool b.o5, .bool b.o6, .slice b.A b.rs.length b.cR, .slice b.D b.ds.length b.cD], .int .i64 n] w fun e w' => e = .returned (.bool true) ∧ Below w.heap.size w w' := by
  have hka := Lib.hid (CalP.ok ma); have hkb := Lib.hid (CalP.ok mb)
  have uaa : Hid (uopen a a = true) := Lib.hid ((uopen_self a).trans (CalP.may_iff.1 ma).1)
  have uba := Lib.hid ((uopen_comm b a).trans uab)
  have UAB := Lib.hid uab; clear uab
  have HMA := Lib.hid ma; have HMB := Lib.hid mb; have HFA := Lib.hid fa; have HFB := Lib.hid fb
  have hB : Below w.heap.size w w := Below.refl _ _
  go_enter Tryd.func11, Tryd.ntmps11
  (try go_simp); (repeat (first | ((with_reducible refine wp_region_app ?_); simp only [List.cons_append, List.nil_append]) | go_values | go_skip | go_guarded | go_step | go_upon))
  refine (shown13_c _ (hL.below (by repeat (first | assumption | exact Below.refl _ _ | (with_reducible refine Below.drew ?_) | (with_reducible refine below_drewN' ?_ _) | (with_reducible refine below_al ?_) | ((with_reducible refine below_set ?_ ?_); rotate_left; focus (first | (simp; done) | (simp; omega)))))) (hN.below (by repeat (first | assumption | exact Below.refl _ _ | (with_reducible refine Below.drew ?_) | (with_reducible refine below_drewN' ?_ _) | (with_reducible refine below_al ?_) | ((with_reducible refine below_set ?_ ?_); rotate_left; focus (first | (simp; done) | (simp; omega))))))).mono ?_; rintro e w1 ⟨rfl, hb1⟩
  have hz1 := hb1.size; (try simp at hz1); obtain ⟨hc1, hf1⟩ := bcell hb1; have hB1 := below_step (w := w) hb1 (by repeat (first | assumption | exact Below.refl _ _ | (with_reducible refine Below.drew ?_) | (with_reducible refine below_drewN' ?_ _) | (with_reducible refine below_al ?_) | ((with_reducible refine below_set ?_ ?_); rotate_left; focus (first | (simp; done) | (simp; omega)))))
  have le_w_w1 : w.heap.size ≤ w1.heap.size := by omega
  try have lt_w_w1 : w.heap.size < w1.heap.size := by omega
  have le1_w_w1 : w.heap.size + 1 ≤ w1.heap.size := by omega
  try have lt1_w_w1 : w.heap.size + 1 < w1.heap.size := by omega
  (try go_simp); (repeat (first | ((with_reducible refine wp_region_app ?_); simp only [List.cons_append, List.nil_append]) | go_values | go_skip | go_guarded | go_step | go_upon))
  refine (few_c a _).mono ?_; rintro e w2 ⟨rfl, hb2⟩
  have hz2 := hb2.size; (try simp at hz2); obtain ⟨hc2, hf2⟩ := bcell hb2; have hB2 := below_step (w := w) hb2 (by repeat (first | assumption | exact Below.refl _ _ | (with_reducible refine Below.drew ?_) | (with_reducible refine below_drewN' ?_ _) | (with_reducible refine below_al ?_) | ((with_reducible refine below_set ?_ ?_); rotate_left; focus (first | (simp; done) | (simp; omega)))))
  have le_w_w2 : w.heap.size ≤ w2.heap.size := by omega
  try have lt_w_w2 : w.heap.size < w2.heap.size := by omega
  have le1_w_w2 : w.heap.size + 1 ≤ w2.heap.size := by omega
  try have lt1_w_w2 : w.heap.size + 1 < w2.heap.size := by omega
  have le_w1_w2 : w1.heap.size ≤ w2.heap.size := by omega
  try have lt_w1_w2 : w1.heap.size < w2.heap.size := by omega
  (try go_simp); (repeat (first | ((with_reducible refine wp_region_app ?_); simp only [List.cons_append, List.nil_append]) | go_values | go_skip | go_guarded | go_step | go_upon))
  refine (few_c b _).mono ?_; rintro e w3 ⟨rfl, hb3⟩
  have hz3 := hb3.size; (try simp at hz3); obtain ⟨hc3, hf3⟩ := bcell hb3; have hB3 := below_step (w := w) hb3 (by repeat (first | assumption | exact Below.refl _ _ | (with_reducible refine Below.drew ?_) | (with_reducible refine below_drewN' ?_ _) | (with_reducible refine below_al ?_) | ((with_reducible refine below_set ?_ ?_); rotate_left; focus (first | (simp; done) | (simp; omega)))))
  have le_w_w3 : w.heap.size ≤ w3.heap.size := by omega
  try have lt_w_w3 : w.heap.size < w3.heap.size := by omega
  have le1_w_w3 : w.heap.size + 1 ≤ w3.heap.size := by omega
  try have lt1_w_w3 : w.heap.size + 1 < w3.heap.size := by omega
  have le_w1_w3 : w1.heap.size ≤ w3.heap.size := by omega
  try have lt_w1_w3 : w1.heap.size < w3.heap.size := by omega
  have le_w2_w3 : w2.heap.size ≤ w3.heap.size := by omega
  try have lt_w2_w3 : w2.heap.size < w3.heap.size := by omega
  (try go_simp); (repeat (first | ((with_reducible refine wp_region_app ?_); simp only [List.cons_append, List.nil_append]) | go_values | go_skip | go_guarded | go_step | go_upon))
  refine (rcalMay_c a _ (ia.below (by repeat (first | assumption | exact Below.refl _ _ | (with_reducible refine Below.drew ?_) | (with_reducible refine below_drewN' ?_ _) | (with_reducible refine below_al ?_) | ((with_reducible refine below_set ?_ ?_); rotate_left; focus (first | (simp; done) | (simp; omega))))))).mono ?_; rintro e w4 ⟨rfl, hb4⟩
  have hz4 := hb4.size; (try simp at hz4); obtain ⟨hc4, hf4⟩ := bcell hb4; have hB4 := below_step (w := w) hb4 (by repeat (first | assumption | exact Below.refl _ _ | (with_reducible refine Below.drew ?_) | (with_reducible refine below_drewN' ?_ _) | (with_reducible refine below_al ?_) | ((with_reducible refine below_set ?_ ?_); rotate_left; focus (first | (simp; done) | (simp; omega)))))
  have le_w_w4 : w.heap.size ≤ w4.heap.size := by omega
  try have lt_w_w4 : w.heap.size < w4.heap.size := by omega
  have le1_w_w4 : w.heap.size + 1 ≤ w4.heap.size := by omega
  try have lt1_w_w4 : w.heap.size + 1 < w4.heap.size := by omega
  have le_w1_w4 : w1.heap.size ≤ w4.heap.size := by omega
  try have lt_w1_w4 : w1.heap.size < w4.heap.size := by omega
  have le_w2_w4 : w2.heap.size ≤ w4.heap.size := by omega
  try have lt_w2_w4 : w2.heap.size < w4.heap.size := by omega
  have le_w3_w4 : w3.heap.size ≤ w4.heap.size := by omega
  try have lt_w3_w4 : w3.heap.size < w4.heap.size := by omega
  (try go_simp); (repeat (first | ((with_reducible refine wp_region_app ?_); simp only [List.cons_append, List.nil_append]) | go_values | go_skip | go_guarded | go_step | go_upon))
  refine (rcalMay_c b _ (ib.below (by repeat (first | assumption | exact Below.refl _ _ | (with_reducible refine Below.drew ?_) | (with_reducible refine below_drewN' ?_ _) | (with_reducible refine below_al ?_) | ((with_reducible refine below_set ?_ ?_); rotate_left; focus (first | (simp; done) | (simp; omega))))))).mono ?_; rintro e w5 ⟨rfl, hb5⟩
  have hz5 := hb5.size; (try simp at hz5); obtain ⟨hc5, hf5⟩ := bcell hb5; have hB5 := below_step (w := w) hb5 (by repeat (first | assumption | exact Below.refl _ _ | (with_reducible refine Below.drew ?_) | (with_reducible refine below_drewN' ?_ _) | (with_reducible refine below_al ?_) | ((with_reducible refine below_set ?_ ?_); rotate_left; focus (first | (simp; done) | (simp; omega)))))
  have le_w_w5 : w.heap.size ≤ w5.heap.size := by omega
  try have lt_w_w5 : w.heap.size < w5.heap.size := by omega
  have le1_w_w5 : w.heap.size + 1 ≤ w5.heap.size := by omega
  try have lt1_w_w5 : w.heap.size + 1 < w5.heap.size := by omega
  have le_w1_w5 : w1.heap.size ≤ w5.heap.size := by omega
  try have lt_w1_w5 : w1.heap.size < w5.heap.size := by omega
  have le_w2_w5 : w2.heap.size ≤ w5.heap.size := by omega
  try have lt_w2_w5 : w2.heap.size < w5.heap.size := by omega
  have le_w3_w5 : w3.heap.size ≤ w5.heap.size := by omega
  try have lt_w3_w5 : w3.heap.size < w5.heap.size := by omega
  have le_w4_w5 : w4.heap.size ≤ w5.heap.size := by omega
  try have lt_w4_w5 : w4.heap.size < w5.heap.size := by omega
  (try go_simp); (repeat (first | ((with_reducible refine wp_region_app ?_); simp only [List.cons_append, List.nil_append]) | go_values | go_skip | go_guarded | go_step | go_upon))
  refine (union_yes a b HMA.out HMB.out HFA.out HFB.out UAB.out _ (hL.below (by repeat (first | assumption | exact Below.refl _ _ | (with_reducible refine Below.drew ?_) | (with_reducible refine below_drewN' ?_ _) | (with_reducible refine below_al ?_) | ((with_reducible refine below_set ?_ ?_); rotate_left; focus (first | (simp; done) | (simp; omega)))))) (hN.below (by repeat (first | assumption | exact Below.refl _ _ | (with_reducible refine Below.drew ?_) | (with_reducible refine below_drewN' ?_ _) | (with_reducible refine below_al ?_) | ((with_reducible refine below_set ?_ ?_); rotate_left; focus (first | (simp; done) | (simp; omega)))))) (ia.below (by repeat (first | assumption | exact Below.refl _ _ | (with_reducible refine Below.drew ?_) | (with_reducible refine below_drewN' ?_ _) | (with_reducible refine below_al ?_) | ((with_reducible refine below_set ?_ ?_); rotate_left; focus (first | (simp; done) | (simp; omega)))))) (ib.below (by repeat (first | assumption | exact Below.refl _ _ | (with_reducible refine Below.drew ?_) | (with_reducible refine below_drewN' ?_ _) | (with_reducible refine below_al ?_) | ((with_reducible refine below_set ?_ ?_); rotate_left; focus (first | (simp; done) | (simp; omega))))))).mono ?_; rintro e w6 ⟨x, hx, icx, hmx, hb6, rfl⟩
  have Hx := Lib.hid hx; have HMx := Lib.hid hmx; clear hx hmx
  have hz6 := hb6.size; (try simp at hz6); obtain ⟨hc6, hf6⟩ := bcell hb6; have hB6 := below_step (w := w) hb6 (by repeat (first | assumption | exact Below.refl _ _ | (with_reducible refine Below.drew ?_) | (with_reducible refine below_drewN' ?_ _) | (with_reducible refine below_al ?_) | ((with_reducible refine below_set ?_ ?_); rotate_left; focus (first | (simp; done) | (simp; omega)))))
  have le_w_w6 : w.heap.size ≤ w6.heap.size := by omega
  try have lt_w_w6 : w.heap.size < w6.heap.size := by omega
  have ly_w_w6 : w.heap.size < w6.heap.size + 1 := by omega
  have le_w1_w6 : w1.heap.size ≤ w6.heap.size := by omega
  try have lt_w1_w6 : w1.heap.size < w6.heap.size := by omega
  have ly_w1_w6 : w1.heap.size < w6.heap.size + 1 := by omega
  have le_w2_w6 : w2.heap.size ≤ w6.heap.size := by omega
  try have lt_w2_w6 : w2.heap.size < w6.heap.size := by omega
  have ly_w2_w6 : w2.heap.size < w6.heap.size + 1 := by omega
  have le_w3_w6 : w3.heap.size ≤ w6.heap.size := by omega
  try have lt_w3_w6 : w3.heap.size < w6.heap.size := by omega
  have ly_w3_w6 : w3.heap.size < w6.heap.size + 1 := by omega
  have le_w4_w6 : w4.heap.size ≤ w6.heap.size := by omega
  try have lt_w4_w6 : w4.heap.size < w6.heap.size := by omega
  have ly_w4_w6 : w4.heap.size < w6.heap.size + 1 := by omega
  have le_w5_w6 : w5.heap.size ≤ w6.heap.size := by omega
  try have lt_w5_w6 : w5.heap.size < w6.heap.size := by omega
  have ly_w5_w6 : w5.heap.size < w6.heap.size + 1 := by omega
  have lx_w6 : w.heap.size + 1 < w6.heap.size := by omega
  have lz_w6 : w.heap.size + 1 < w6.heap.size + 1 := by omega
  (try go_simp); (repeat (first | ((with_reducible refine wp_region_app ?_); simp only [List.cons_append, List.nil_append]) | go_values | go_skip | go_guarded | go_step | go_upon))
  refine (union_yes b a HMB.out HMA.out HFB.out HFA.out uba.out _ (hL.below (by repeat (first | assumption | exact Below.refl _ _ | (with_reducible refine Below.drew ?_) | (with_reducible refine below_drewN' ?_ _) | (with_reducible refine below_al ?_) | ((with_reducible refine below_set ?_ ?_); rotate_left; focus (first | (simp; done) | (simp; omega)))))) (hN.below (by repeat (first | assumption | exact Below.refl _ _ | (with_reducible refine Below.drew ?_) | (with_reducible refine below_drewN' ?_ _) | (with_reducible refine below_al ?_) | ((with_reducible refine below_set ?_ ?_); rotate_left; focus (first | (simp; done) | (simp; omega)))))) (ib.below (by repeat (first | assumption | exact Below.refl _ _ | (with_reducible refine Below.drew ?_) | (with_reducible refine below_drewN' ?_ _) | (with_reducible refine below_al ?_) | ((with_reducible refine below_set ?_ ?_); rotate_left; focus (first | (simp; done) | (simp; omega)))))) (ia.below (by repeat (first | assumption | exact Below.refl _ _ | (with_reducible refine Below.drew ?_) | (with_reducible refine below_drewN' ?_ _) | (with_reducible refine below_al ?_) | ((with_reducible refine below_set ?_ ?_); rotate_left; focus (first | (simp; done) | (simp; omega))))))).mono ?_; rintro e w7 ⟨y, hy, icy, hmy, hb7, rfl⟩
  have Hy := Lib.hid hy; have HMy := Lib.hid hmy; clear hy hmy
  have hz7 := hb7.size; (try simp at hz7); obtain ⟨hc7, hf7⟩ := bcell hb7; have hB7 := below_step (w := w) hb7 (by repeat (first | assumption | exact Below.refl _ _ | (with_reducible refine Below.drew ?_) | (with_reducible refine below_drewN' ?_ _) | (with_reducible refine below_al ?_) | ((with_reducible refine below_set ?_ ?_); rotate_left; focus (first | (simp; done) | (simp; omega)))))
  have le_w_w7 : w.heap.size ≤ w7.heap.size := by omega
  try have lt_w_w7 : w.heap.size < w7.heap.size := by omega
  have ly_w_w7 : w.heap.size < w7.heap.size + 1 := by omega
  have le_w1_w7 : w1.heap.size ≤ w7.heap.size := by omega
  try have lt_w1_w7 : w1.heap.size < w7.heap.size := by omega
  have ly_w1_w7 : w1.heap.size < w7.heap.size + 1 := by omega
  have le_w2_w7 : w2.heap.size ≤ w7.heap.size := by omega
  try have lt_w2_w7 : w2.heap.size < w7.heap.size := by omega
  have ly_w2_w7 : w2.heap.size < w7.heap.size + 1 := by omega
  have le_w3_w7 : w3.heap.size ≤ w7.heap.size := by omega
  try have lt_w3_w7 : w3.heap.size < w7.heap.size := by omega
  have ly_w3_w7 : w3.heap.size < w7.heap.size + 1 := by omega
  have le_w4_w7 : w4.heap.size ≤ w7.heap.size := by omega
  try have lt_w4_w7 : w4.heap.size < w7.heap.size := by omega
  have ly_w4_w7 : w4.heap.size < w7.heap.size + 1 := by omega
  have le_w5_w7 : w5.heap.size ≤ w7.heap.size := by omega
  try have lt_w5_w7 : w5.heap.size < w7.heap.size := by omega
  have ly_w5_w7 : w5.heap.size < w7.heap.size + 1 := by omega
  have le_w6_w7 : w6.heap.size ≤ w7.heap.size := by omega
  try have lt_w6_w7 : w6.heap.size < w7.heap.size := by omega
  have ly_w6_w7 : w6.heap.size < w7.heap.size + 1 := by omega
  have lx_w7 : w.heap.size + 1 < w7.heap.size := by omega
  have lz_w7 : w.heap.size + 1 < w7.heap.size + 1 := by omega
  (try go_simp); (repeat (first | ((with_reducible refine wp_region_app ?_); simp only [List.cons_append, List.nil_append]) | go_values | go_skip | go_guarded | go_step | go_upon))
  refine (union_yes a a HMA.out HMA.out HFA.out HFA.out uaa.out _ (hL.below (by repeat (first | assumption | exact Below.refl _ _ | (with_reducible refine Below.drew ?_) | (with_reducible refine below_drewN' ?_ _) | (with_reducible refine below_al ?_) | ((with_reducible refine below_set ?_ ?_); rotate_left; focus (first | (simp; done) | (simp; omega)))))) (hN.below (by repeat (first | assumption | exact Below.refl _ _ | (with_reducible refine Below.drew ?_) | (with_reducible refine below_drewN' ?_ _) | (with_reducible refine below_al ?_) | ((with_reducible refine below_set ?_ ?_); rotate_left; focus (first | (simp; done) | (simp; omega)))))) (ia.below (by repeat (first | assumption | exact Below.refl _ _ | (with_reducible refine Below.drew ?_) | (with_reducible refine below_drewN' ?_ _) | (with_reducible refine below_al ?_) | ((with_reducible refine below_set ?_ ?_); rotate_left; focus (first | (simp; done) | (simp; omega)))))) (ia.below (by repeat (first | assumption | exact Below.refl _ _ | (with_reducible refine Below.drew ?_) | (with_reducible refine below_drewN' ?_ _) | (with_reducible refine below_al ?_) | ((with_reducible refine below_set ?_ ?_); rotate_left; focus (first | (simp; done) | (simp; omega))))))).mono ?_; rintro e w8 ⟨z, hz, icz, hmz, hb8, rfl⟩
  have Hz := Lib.hid hz; have HMz := Lib.hid hmz; clear hz hmz
  have hz8 := hb8.size; (try simp at hz8); obtain ⟨hc8, hf8⟩ := bcell hb8; have hB8 := below_step (w := w) hb8 (by repeat (first | assumption | exact Below.refl _ _ | (with_reducible refine Below.drew ?_) | (with_reducible refine below_drewN' ?_ _) | (with_reducible refine below_al ?_) | ((with_reducible refine below_set ?_ ?_); rotate_left; focus (first | (simp; done) | (simp; omega)))))
  have le_w_w8 : w.heap.size ≤ w8.heap.size := by omega
  try have lt_w_w8 : w.heap.size < w8.heap.size := by omega
  have ly_w_w8 : w.heap.size < w8.heap.size + 1 := by omega
  have le_w1_w8 : w1.heap.size ≤ w8.heap.size := by omega
  try have lt_w1_w8 : w1.heap.size < w8.heap.size := by omega
  have ly_w1_w8 : w1.heap.size < w8.heap.size + 1 := by omega
  have le_w2_w8 : w2.heap.size ≤ w8.heap.size := by omega
  try have lt_w2_w8 : w2.heap.size < w8.heap.size := by omega
  have ly_w2_w8 : w2.heap.size < w8.heap.size + 1 := by omega
  have le_w3_w8 : w3.heap.size ≤ w8.heap.size := by omega
  try have lt_w3_w8 : w3.heap.size < w8.heap.size := by omega
  have ly_w3_w8 : w3.heap.size < w8.heap.size + 1 := by omega
  have le_w4_w8 : w4.heap.size ≤ w8.heap.size := by omega
  try have lt_w4_w8 : w4.heap.size < w8.heap.size := by omega
  have ly_w4_w8 : w4.heap.size < w8.heap.size + 1 := by omega
  have le_w5_w8 : w5.heap.size ≤ w8.heap.size := by omega
  try have lt_w5_w8 : w5.heap.size < w8.heap.size := by omega
  have ly_w5_w8 : w5.heap.size < w8.heap.size + 1 := by omega
  have le_w6_w8 : w6.heap.size ≤ w8.heap.size := by omega
  try have lt_w6_w8 : w6.heap.size < w8.heap.size := by omega
  have ly_w6_w8 : w6.heap.size < w8.heap.size + 1 := by omega
  have le_w7_w8 : w7.heap.size ≤ w8.heap.size := by omega
  try have lt_w7_w8 : w7.heap.size < w8.heap.size := by omega
  have ly_w7_w8 : w7.heap.size < w8.heap.size + 1 := by omega
  have lx_w8 : w.heap.size + 1 < w8.heap.size := by omega
  have lz_w8 : w.heap.size + 1 < w8.heap.size + 1 := by omega
  (try go_simp); (repeat (first | ((with_reducible refine wp_region_app ?_); simp only [List.cons_append, List.nil_append]) | go_values | go_skip | go_guarded | go_step | go_upon))
  generalize hW : (w8.alloc _) = w9
  have hB9 : Below w.heap.size w w9 := by rw [← hW]; exact below_al hB8
  have Fa0 : Hid (w9.cell? ⟨w.heap.size, 0, none⟩ = some (.bool a.o0)) := Lib.hid (by rw [← hW]; exact cell_al (below_some hb8 _ _ _ (cell_al (below_some hb7 _ _ _ (cell_al (below_some hb6 _ _ _ (below_some hb5 _ _ _ (below_some hb4 _ _ _ (below_some hb3 _ _ _ (below_some hb2 _ _ _ (below_some hb1 _ _ _ (cell_al (cell_nu rfl rfl)))))))))))))
  have Fa1 : Hid (w9.cell? ⟨w.heap.size, 1, none⟩ = some (.bool a.o1)) := Lib.hid (by rw [← hW]; exact cell_al (below_some hb8 _ _ _ (cell_al (below_some hb7 _ _ _ (cell_al (below_some hb6 _ _ _ (below_some hb5 _ _ _ (below_some hb4 _ _ _ (below_some hb3 _ _ _ (below_some hb2 _ _ _ (below_some hb1 _ _ _ (cell_al (cell_nu rfl rfl)))))))))))))
  have Fa2 : Hid (w9.cell? ⟨w.heap.size, 2, none⟩ = some (.bool a.o2)) := Lib.hid (by rw [← hW]; exact cell_al (below_some hb8 _ _ _ (cell_al (below_some hb7 _ _ _ (cell_al (below_some hb6 _ _ _ (below_some hb5 _ _ _ (below_some hb4 _ _ _ (below_some hb3 _ _ _ (below_some hb2 _ _ _ (below_some hb1 _ _ _ (cell_al (cell_nu rfl rfl)))))))))))))
  have Fa3 : Hid (w9.cell? ⟨w.heap.size, 3, none⟩ = some (.bool a.o3)) := Lib.hid (by rw [← hW]; exact cell_al (below_some hb8 _ _ _ (cell_al (below_some hb7 _ _ _ (cell_al (below_some hb6 _ _ _ (below_some hb5 _ _ _ (below_some hb4 _ _ _ (below_some hb3 _ _ _ (below_some hb2 _ _ _ (below_some hb1 _ _ _ (cell_al (cell_nu rfl rfl)))))))))))))
  have Fa4 : Hid (w9.cell? ⟨w.heap.size, 4, none⟩ = some (.bool a.o4)) := Lib.hid (by rw [← hW]; exact cell_al (below_some hb8 _ _ _ (cell_al (below_some hb7 _ _ _ (cell_al (below_some hb6 _ _ _ (below_some hb5 _ _ _ (below_some hb4 _ _ _ (below_some hb3 _ _ _ (below_some hb2 _ _ _ (below_some hb1 _ _ _ (cell_al (cell_nu rfl rfl)))))))))))))
  have Fa5 : Hid (w9.cell? ⟨w.heap.size, 5, none⟩ = some (.bool a.o5)) := Lib.hid (by rw [← hW]; exact cell_al (below_some hb8 _ _ _ (cell_al (below_some hb7 _ _ _ (cell_al (below_some hb6 _ _ _ (below_some hb5 _ _ _ (below_some hb4 _ _ _ (below_some hb3 _ _ _ (below_some hb2 _ _ _ (below_some hb1 _ _ _ (cell_al (cell_nu rfl rfl)))))))))))))
  have Fa6 : Hid (w9.cell? ⟨w.heap.size, 6, none⟩ = some (.bool a.o6)) := Lib.hid (by rw [← hW]; exact cell_al (below_some hb8 _ _ _ (cell_al (below_some hb7 _ _ _ (cell_al (below_some hb6 _ _ _ (below_some hb5 _ _ _ (below_some hb4 _ _ _ (below_some hb3 _ _ _ (below_some hb2 _ _ _ (below_some hb1 _ _ _ (cell_al (cell_nu rfl rfl)))))))))))))
  have Fa7 : Hid (w9.cell? ⟨w.heap.size, 7, none⟩ = some (.slice a.A a.rs.length a.cR)) := Lib.hid (by rw [← hW]; exact cell_al (below_some hb8 _ _ _ (cell_al (below_some hb7 _ _ _ (cell_al (below_some hb6 _ _ _ (below_some hb5 _ _ _ (below_some hb4 _ _ _ (below_some hb3 _ _ _ (below_some hb2 _ _ _ (below_some hb1 _ _ _ (cell_al (cell_nu rfl rfl)))))))))))))
  have Fa8 : Hid (w9.cell? ⟨w.heap.size, 8, none⟩ = some (.slice a.D a.ds.length a.cD)) := Lib.hid (by rw [← hW]; exact cell_al (below_some hb8 _ _ _ (cell_al (below_some hb7 _ _ _ (cell_al (below_some hb6 _ _ _ (below_some hb5 _ _ _ (below_some hb4 _ _ _ (below_some hb3 _ _ _ (below_some hb2 _ _ _ (below_some hb1 _ _ _ (cell_al (cell_nu rfl rfl)))))))))))))
  have Fb0 : Hid (w9.cell? ⟨w.heap.size + 1, 0, none⟩ = some (.bool b.o0)) := Lib.hid (by rw [← hW]; exact cell_al (below_some hb8 _ _ _ (cell_al (below_some hb7 _ _ _ (cell_al (below_some hb6 _ _ _ (below_some hb5 _ _ _ (below_some hb4 _ _ _ (below_some hb3 _ _ _ (below_some hb2 _ _ _ (below_some hb1 _ _ _ (cell_nu (by simp) rfl))))))))))))
  have Fb1 : Hid (w9.cell? ⟨w.heap.size + 1, 1, none⟩ = some (.bool b.o1)) := Lib.hid (by rw [← hW]; exact cell_al (below_some hb8 _ _ _ (cell_al (below_some hb7 _ _ _ (cell_al (below_some hb6 _ _ _ (below_some hb5 _ _ _ (below_some hb4 _ _ _ (below_some hb3 _ _ _ (below_some hb2 _ _ _ (below_some hb1 _ _ _ (cell_nu (by simp) rfl))))))))))))
  have Fb2 : Hid (w9.cell? ⟨w.heap.size + 1, 2, none⟩ = some (.bool b.o2)) := Lib.hid (by rw [← hW]; exact cell_al (below_some hb8 _ _ _ (cell_al (below_some hb7 _ _ _ (cell_al (below_some hb6 _ _ _ (below_some hb5 _ _ _ (below_some hb4 _ _ _ (below_some hb3 _ _ _ (below_some hb2 _ _ _ (below_some hb1 _ _ _ (cell_nu (by simp) rfl))))))))))))
  have Fb3 : Hid (w9.cell? ⟨w.heap.size + 1, 3, none⟩ = some (.bool b.o3)) := Lib.hid (by rw [← hW]; exact cell_al (below_some hb8 _ _ _ (cell_al (below_some hb7 _ _ _ (cell_al (below_some hb6 _ _ _ (below_some hb5 _ _ _ (below_some hb4 _ _ _ (below_some hb3 _ _ _ (below_some hb2 _ _ _ (below_some hb1 _ _ _ (cell_nu (by simp) rfl))))))))))))
  have Fb4 : Hid (w9.cell? ⟨w.heap.size + 1, 4, none⟩ = some (.bool b.o4)) := Lib.hid (by rw [← hW]; exact cell_al (below_some hb8 _ _ _ (cell_al (below_some hb7 _ _ _ (cell_al (below_some hb6 _ _ _ (below_some hb5 _ _ _ (below_some hb4 _ _ _ (below_some hb3 _ _ _ (below_some hb2 _ _ _ (below_some hb1 _ _ _ (cell_nu (by simp) rfl))))))))))))
  have Fb5 : Hid (w9.cell? ⟨w.heap.size + 1, 5, none⟩ = some (.bool b.o5)) := Lib.hid (by rw [← hW]; exact cell_al (below_some hb8 _ _ _ (cell_al (below_some hb7 _ _ _ (cell_al (below_some hb6 _ _ _ (below_some hb5 _ _ _ (below_some hb4 _ _ _ (below_some hb3 _ _ _ (below_some hb2 _ _ _ (below_some hb1 _ _ _ (cell_nu (by simp) rfl))))))))))))
  have Fb6 : Hid (w9.cell? ⟨w.heap.size + 1, 6, none⟩ = some (.bool b.o6)) := Lib.hid (by rw [← hW]; exact cell_al (below_some hb8 _ _ _ (cell_al (below_some hb7 _ _ _ (cell_al (below_some hb6 _ _ _ (below_some hb5 _ _ _ (below_some hb4 _ _ _ (below_some hb3 _ _ _ (below_some hb2 _ _ _ (below_some hb1 _ _ _ (cell_nu (by simp) rfl))))))))))))
  have Fb7 : Hid (w9.cell? ⟨w.heap.size + 1, 7, none⟩ = some (.slice b.A b.rs.length b.cR)) := Lib.hid (by rw [← hW]; exact cell_al (below_some hb8 _ _ _ (cell_al (below_some hb7 _ _ _ (cell_al (below_some hb6 _ _ _ (below_some hb5 _ _ _ (below_some hb4 _ _ _ (below_some hb3 _ _ _ (below_some hb2 _ _ _ (below_some hb1 _ _ _ (cell_nu (by simp) rfl))))))))))))
  have Fb8 : Hid (w9.cell? ⟨w.heap.size + 1, 8, none⟩ = some (.slice b.D b.ds.length b.cD)) := Lib.hid (by rw [← hW]; exact cell_al (below_some hb8 _ _ _ (cell_al (below_some hb7 _ _ _ (cell_al (below_some hb6 _ _ _ (below_some hb5 _ _ _ (below_some hb4 _ _ _ (below_some hb3 _ _ _ (below_some hb2 _ _ _ (below_some hb1 _ _ _ (cell_nu (by simp) rfl))))))))))))
  have Fz0 : Hid (w9.cell? ⟨w8.heap.size, 0, none⟩ = some (.bool z.o0)) := Lib.hid (by rw [← hW]; exact cell_nu rfl rfl)
  have Fz1 : Hid (w9.cell? ⟨w8.heap.size, 1, none⟩ = some (.bool z.o1)) := Lib.hid (by rw [← hW]; exact cell_nu rfl rfl)
  have Fz2 : Hid (w9.cell? ⟨w8.heap.size, 2, none⟩ = some (.bool z.o2)) := Lib.hid (by rw [← hW]; exact cell_nu rfl rfl)
  have Fz3 : Hid (w9.cell? ⟨w8.heap.size, 3, none⟩ = some (.bool z.o3)) := Lib.hid (by rw [← hW]; exact cell_nu rfl rfl)
  have Fz4 : Hid (w9.cell? ⟨w8.heap.size, 4, none⟩ = some (.bool z.o4)) := Lib.hid (by rw [← hW]; exact cell_nu rfl rfl)
  have Fz5 : Hid (w9.cell? ⟨w8.heap.size, 5, none⟩ = some (.bool z.o5)) := Lib.hid (by rw [← hW]; exact cell_nu rfl rfl)
  have Fz6 : Hid (w9.cell? ⟨w8.heap.size, 6, none⟩ = some (.bool z.o6)) := Lib.hid (by rw [← hW]; exact cell_nu rfl rfl)
  have Fz7 : Hid (w9.cell? ⟨w8.heap.size, 7, none⟩ = some (.slice z.A z.rs.length z.cR)) := Lib.hid (by rw [← hW]; exact cell_nu rfl rfl)
  have Fz8 : Hid (w9.cell? ⟨w8.heap.size, 8, none⟩ = some (.slice z.D z.ds.length z.cD)) := Lib.hid (by rw [← hW]; exact cell_nu rfl rfl)
  have Fx0 : Hid (w9.cell? ⟨w6.heap.size, 0, none⟩ = some (.bool x.o0)) := Lib.hid (by rw [← hW]; exact cell_al (below_some hb8 _ _ _ (cell_al (below_some hb7 _ _ _ (cell_nu rfl rfl)))))
  have Fx1 : Hid (w9.cell? ⟨w6.heap.size, 1, none⟩ = some (.bool x.o1)) := Lib.hid (by rw [← hW]; exact cell_al (below_some hb8 _ _ _ (cell_al (below_some hb7 _ _ _ (cell_nu rfl rfl)))))
  have Fx2 : Hid (w9.cell? ⟨w6.heap.size, 2, none⟩ = some (.bool x.o2)) := Lib.hid (by rw [← hW]; exact cell_al (below_some hb8 _ _ _ (cell_al (below_some hb7 _ _ _ (cell_nu rfl rfl)))))
  have Fx3 : Hid (w9.cell? ⟨w6.heap.size, 3, none⟩ = some (.bool x.o3)) := Lib.hid (by rw [← hW]; exact cell_al (below_some hb8 _ _ _ (cell_al (below_some hb7 _ _ _ (cell_nu rfl rfl)))))
  have Fx4 : Hid (w9.cell? ⟨w6.heap.size, 4, none⟩ = some (.bool x.o4)) := Lib.hid (by rw [← hW]; exact cell_al (below_some hb8 _ _ _ (cell_al (below_some hb7 _ _ _ (cell_nu rfl rfl)))))
  have Fx5 : Hid (w9.cell? ⟨w6.heap.size, 5, none⟩ = some (.bool x.o5)) := Lib.hid (by rw [← hW]; exact cell_al (below_some hb8 _ _ _ (cell_al (below_some hb7 _ _ _ (cell_nu rfl rfl)))))
  have Fx6 : Hid (w9.cell? ⟨w6.heap.size, 6, none⟩ = some (.bool x.o6)) := Lib.hid (by rw [← hW]; exact cell_al (below_some hb8 _ _ _ (cell_al (below_some hb7 _ _ _ (cell_nu rfl rfl)))))
  have Fx7 : Hid (w9.cell? ⟨w6.heap.size, 7, none⟩ = some (.slice x.A x.rs.length x.cR)) := Lib.hid (by rw [← hW]; exact cell_al (below_some hb8 _ _ _ (cell_al (below_some hb7 _ _ _ (cell_nu rfl rfl)))))
  have Fx8 : Hid (w9.cell? ⟨w6.heap.size, 8, none⟩ = some (.slice x.D x.ds.length x.cD)) := Lib.hid (by rw [← hW]; exact cell_al (below_some hb8 _ _ _ (cell_al (below_some hb7 _ _ _ (cell_nu rfl rfl)))))
  have Fy0 : Hid (w9.cell? ⟨w7.heap.size, 0, none⟩ = some (.bool y.o0)) := Lib.hid (by rw [← hW]; exact cell_al (below_some hb8 _ _ _ (cell_nu rfl rfl)))
  have Fy1 : Hid (w9.cell? ⟨w7.heap.size, 1, none⟩ = some (.bool y.o1)) := Lib.hid (by rw [← hW]; exact cell_al (below_some hb8 _ _ _ (cell_nu rfl rfl)))
  have Fy2 : Hid (w9.cell? ⟨w7.heap.size, 2, none⟩ = some (.bool y.o2)) := Lib.hid (by rw [← hW]; exact cell_al (below_some hb8 _ _ _ (cell_nu rfl rfl)))
  have Fy3 : Hid (w9.cell? ⟨w7.heap.size, 3, none⟩ = some (.bool y.o3)) := Lib.hid (by rw [← hW]; exact cell_al (below_some hb8 _ _ _ (cell_nu rfl rfl)))
  have Fy4 : Hid (w9.cell? ⟨w7.heap.size, 4, none⟩ = some (.bool y.o4)) := Lib.hid (by rw [← hW]; exact cell_al (below_some hb8 _ _ _ (cell_nu rfl rfl)))
  have Fy5 : Hid (w9.cell? ⟨w7.heap.size, 5, none⟩ = some (.bool y.o5)) := Lib.hid (by rw [← hW]; exact cell_al (below_some hb8 _ _ _ (cell_nu rfl rfl)))
  have Fy6 : Hid (w9.cell? ⟨w7.heap.size, 6, none⟩ = some (.bool y.o6)) := Lib.hid (by rw [← hW]; exact cell_al (below_some hb8 _ _ _ (cell_nu rfl rfl)))
  have Fy7 : Hid (w9.cell? ⟨w7.heap.size, 7, none⟩ = some (.slice y.A y.rs.length y.cR)) := Lib.hid (by rw [← hW]; exact cell_al (below_some hb8 _ _ _ (cell_nu rfl rfl)))
  have Fy8 : Hid (w9.cell? ⟨w7.heap.size, 8, none⟩ = some (.slice y.D y.ds.length y.cD)) := Lib.hid (by rw [← hW]; exact cell_al (below_some hb8 _ _ _ (cell_nu rfl rfl)))
  have hL9 := Lib.hid (hL.below hB9); have hN9 := Lib.hid (hN.below hB9); have ia9 := Lib.hid (ia.below hB9); have ib9 := Lib.hid (ib.below hB9)
  have iz9 : Hid (CalIn w9 z) := Lib.hid (by rw [← hW]; exact icz.below (below_al (Below.refl _ _)))
  have okz := Lib.hid (CalP.ok HMz.out)
  have ez : Hid (z.is n = a.is n) := Lib.hid ((uni_is Hz.out n).trans (Bool.and_self _))
  have ix9 : Hid (CalIn w9 x) := Lib.hid (by rw [← hW]; exact icx.below (below_step (w := w6) hb7 (below_al (Below.refl _ _)) |> fun h => below_al (below_step (w := w6) hb8 (below_al h))))
  have iy9 : Hid (CalIn w9 y) := Lib.hid (by rw [← hW]; exact icy.below (below_al (below_step (w := w7) hb8 (below_al (Below.refl _ _)))))
  have okx := Lib.hid (CalP.ok HMx.out); have oky := Lib.hid (CalP.ok HMy.out)
  have ex : Hid (x.is n = (a.is n && b.is n)) := Lib.hid (uni_is Hx.out n)
  have ey : Hid (y.is n = (a.is n && b.is n)) := Lib.hid ((uni_is Hy.out n).trans (Bool.and_comm _ _))
  clear hW ia ib hL hN icz icx icy
  clear hc1 hf1 hc2 hf2 hc3 hf3 hc4 hf4 hc5 hf5 hc6 hf6 hc7 hf7 hc8 hf8
  try clear lx_w
  try clear lz_w
  try clear le_w_w1
  try clear lt_w_w1
  try clear le1_w_w1
  try clear lt1_w_w1
  try clear ly_w_w1
  try clear lx_w1
  try clear lz_w1
  try clear le_w_w2
  try clear lt_w_w2
  try clear le1_w_w2
  try clear lt1_w_w2
  try clear ly_w_w2
  try clear le_w1_w2
  try clear lt_w1_w2
  try clear le1_w1_w2
  try clear lt1_w1_w2
  try clear ly_w1_w2
  try clear lx_w2
  try clear lz_w2
  try clear le_w_w3
  try clear lt_w_w3
  try clear le1_w_w3
  try clear lt1_w_w3
  try clear ly_w_w3
  try clear le_w1_w3
  try clear lt_w1_w3
  try clear le1_w1_w3
  try clear lt1_w1_w3
  try clear ly_w1_w3
  try clear le_w2_w3
  try clear lt_w2_w3
  try clear le1_w2_w3
  try clear lt1_w2_w3
  try clear ly_w2_w3
  try clear lx_w3
  try clear lz_w3
  try clear le_w_w4
  try clear lt_w_w4
  try clear le1_w_w4
  try clear lt1_w_w4
  try clear ly_w_w4
  try clear le_w1_w4
  try clear lt_w1_w4
  try clear le1_w1_w4
  try clear lt1_w1_w4
  try clear ly_w1_w4
  try clear le_w2_w4
  try clear lt_w2_w4
  try clear le1_w2_w4
  try clear lt1_w2_w4
  try clear ly_w2_w4
  try clear le_w3_w4
  try clear lt_w3_w4
  try clear le1_w3_w4
  try clear lt1_w3_w4
  try clear ly_w3_w4
  try clear lx_w4
  try clear lz_w4
  try clear le_w_w5
  try clear lt_w_w5
  try clear le1_w_w5
  try clear lt1_w_w5
  try clear ly_w_w5
  try clear le_w1_w5
  try clear lt_w1_w5
  try clear le1_w1_w5
  try clear lt1_w1_w5
  try clear ly_w1_w5
  try clear le_w2_w5
  try clear lt_w2_w5
  try clear le1_w2_w5
  try clear lt1_w2_w5
  try clear ly_w2_w5
  try clear le_w3_w5
  try clear lt_w3_w5
  try clear le1_w3_w5
  try clear lt1_w3_w5
  try clear ly_w3_w5
  try clear le_w4_w5
  try clear lt_w4_w5
  try clear le1_w4_w5
  try clear lt1_w4_w5
  try clear ly_w4_w5
  try clear lx_w5
  try clear lz_w5
  try clear le_w_w6
  try clear lt_w_w6
  try clear le1_w_w6
  try clear lt1_w_w6
  try clear ly_w_w6
  try clear le_w1_w6
  try clear lt_w1_w6
  try clear le1_w1_w6
  try clear lt1_w1_w6
  try clear ly_w1_w6
  try clear le_w2_w6
  try clear lt_w2_w6
  try clear le1_w2_w6
  try clear lt1_w2_w6
  try clear ly_w2_w6
  try clear le_w3_w6
  try clear lt_w3_w6
  try clear le1_w3_w6
  try clear lt1_w3_w6
  try clear ly_w3_w6
  try clear le_w4_w6
  try clear lt_w4_w6
  try clear le1_w4_w6
  try clear lt1_w4_w6
  try clear ly_w4_w6
  try clear le_w5_w6
  try clear lt_w5_w6
  try clear le1_w5_w6
  try clear lt1_w5_w6
  try clear ly_w5_w6
  try clear lx_w6
  try clear lz_w6
  try clear le_w_w7
  try clear lt_w_w7
  try clear le1_w_w7
  try clear lt1_w_w7
  try clear ly_w_w7
  try clear le_w1_w7
  try clear lt_w1_w7
  try clear le1_w1_w7
  try clear lt1_w1_w7
  try clear ly_w1_w7
  try clear le_w2_w7
  try clear lt_w2_w7
  try clear le1_w2_w7
  try clear lt1_w2_w7
  try clear ly_w2_w7
  try clear le_w3_w7
  try clear lt_w3_w7
  try clear le1_w3_w7
  try clear lt1_w3_w7
  try clear ly_w3_w7
  try clear le_w4_w7
  try clear lt_w4_w7
  try clear le1_w4_w7
  try clear lt1_w4_w7
  try clear ly_w4_w7
  try clear le_w5_w7
  try clear lt_w5_w7
  try clear le1_w5_w7
  try clear lt1_w5_w7
  try clear ly_w5_w7
  try clear le_w6_w7
  try clear lt_w6_w7
  try clear le1_w6_w7
  try clear lt1_w6_w7
  try clear ly_w6_w7
  try clear lx_w7
  try clear lz_w7
  try clear le_w_w8
  try clear lt_w_w8
  try clear le1_w_w8
  try clear lt1_w_w8
  try clear ly_w_w8
  try clear le_w1_w8
  try clear lt_w1_w8
  try clear le1_w1_w8
  try clear lt1_w1_w8
  try clear ly_w1_w8
  try clear le_w2_w8
  try clear lt_w2_w8
  try clear le1_w2_w8
  try clear lt1_w2_w8
  try clear ly_w2_w8
  try clear le_w3_w8
  try clear lt_w3_w8
  try clear le1_w3_w8
  try clear lt1_w3_w8
  try clear ly_w3_w8
  try clear le_w4_w8
  try clear lt_w4_w8
  try clear le1_w4_w8
  try clear lt1_w4_w8
  try clear ly_w4_w8
  try clear le_w5_w8
  try clear lt_w5_w8
  try clear le1_w5_w8
  try clear lt1_w5_w8
  try clear ly_w5_w8
  try clear le_w6_w8
  try clear lt_w6_w8
  try clear le1_w6_w8
  try clear lt1_w6_w8
  try clear ly_w6_w8
  try clear le_w7_w8
  try clear lt_w7_w8
  try clear le1_w7_w8
  try clear lt1_w7_w8
  try clear ly_w7_w8
  try clear lx_w8
  try clear lz_w8
  try clear hB1
  try clear hb1
  try clear hz1
  try clear hB2
  try clear hb2
  try clear hz2
  try clear hB3
  try clear hb3
  try clear hz3
  try clear hB4
  try clear hb4
  try clear hz4
  try clear hB5
  try clear hb5
  try clear hz5
  try clear hB6
  try clear hb6
  try clear hz6
  try clear hB7
  try clear hb7
  try clear hz7
  try clear hB8
  try clear hb8
  try clear hz8
  have HKA := hka; have ez2 := ez.out; rw [ha] at ez2
  have cl0 : w9.cell? ⟨w8.heap.size, 0, none⟩ = some (.bool z.o0) := Fz0.out
  have cl1 : w9.cell? ⟨w8.heap.size, 1, none⟩ = some (.bool z.o1) := Fz1.out
  have cl2 : w9.cell? ⟨w8.heap.size, 2, none⟩ = some (.bool z.o2) := Fz2.out
  have cl3 : w9.cell? ⟨w8.heap.size, 3, none⟩ = some (.bool z.o3) := Fz3.out
  have cl4 : w9.cell? ⟨w8.heap.size, 4, none⟩ = some (.bool z.o4) := Fz4.out
  have cl5 : w9.cell? ⟨w8.heap.size, 5, none⟩ = some (.bool z.o5) := Fz5.out
  have cl6 : w9.cell? ⟨w8.heap.size, 6, none⟩ = some (.bool z.o6) := Fz6.out
  have cl7 : w9.cell? ⟨w8.heap.size, 7, none⟩ = some (.slice z.A z.rs.length z.cR) := Fz7.out
  have cl8 : w9.cell? ⟨w8.heap.size, 8, none⟩ = some (.slice z.D z.ds.length z.cD) := Fz8.out
  have cl9 : w9.cell? ⟨w.heap.size, 0, none⟩ = some (.bool a.o0) := Fa0.out
  have cl10 : w9.cell? ⟨w.heap.size, 1, none⟩ = some (.bool a.o1) := Fa1.out
  have cl11 : w9.cell? ⟨w.heap.size, 2, none⟩ = some (.bool a.o2) := Fa2.out
  have cl12 : w9.cell? ⟨w.heap.size, 3, none⟩ = some (.bool a.o3) := Fa3.out
  have cl13 : w9.cell? ⟨w.heap.size, 4, none⟩ = some (.bool a.o4) := Fa4.out
  have cl14 : w9.cell? ⟨w.heap.size, 5, none⟩ = some (.bool a.o5) := Fa5.out
  have cl15 : w9.cell? ⟨w.heap.size, 6, none⟩ = some (.bool a.o6) := Fa6.out
  have cl16 : w9.cell? ⟨w.heap.size, 7, none⟩ = some (.slice a.A a.rs.length a.cR) := Fa7.out
  have cl17 : w9.cell? ⟨w.heap.size, 8, none⟩ = some (.slice a.D a.ds.length a.cD) := Fa8.out
  have hRefl : Below w9.heap.size w9 w9 := Below.refl _ _
  have HS : Hid (∀ W, Below w9.heap.size w9 W → (fun W' => Below w9.heap.size w9 W' ∧ W'.cell? ⟨w8.heap.size, 0, none⟩ = some (.bool z.o0) ∧ W'.cell? ⟨w8.heap.size, 1, none⟩ = some (.bool z.o1) ∧ W'.cell? ⟨w8.heap.size, 2, none⟩ = some (.bool z.o2) ∧ W'.cell? ⟨w8.heap.size, 3, none⟩ = some (.bool z.o3) ∧ W'.cell? ⟨w8.heap.size, 4, none⟩ = some (.bool z.o4) ∧ W'.cell? ⟨w8.heap.size, 5, none⟩ = some (.bool z.o5) ∧ W'.cell? ⟨w8.heap.size, 6, none⟩ = some (.bool z.o6) ∧ W'.cell? ⟨w8.heap.size, 7, none⟩ = some (.slice z.A z.rs.length z.cR) ∧ W'.cell? ⟨w8.heap.size, 8, none⟩ = some (.slice z.D z.ds.length z.cD) ∧ W'.cell? ⟨w.heap.size, 0, none⟩ = some (.bool a.o0) ∧ W'.cell? ⟨w.heap.size, 1, none⟩ = some (.bool a.o1) ∧ W'.cell? ⟨w.heap.size, 2, none⟩ = some (.bool a.o2) ∧ W'.cell? ⟨w.heap.size, 3, none⟩ = some (.bool a.o3) ∧ W'.cell? ⟨w.heap.size, 4, none⟩ = some (.bool a.o4) ∧ W'.cell? ⟨w.heap.size, 5, none⟩ = some (.bool a.o5) ∧ W'.cell? ⟨w.heap.size, 6, none⟩ = some (.bool a.o6) ∧ W'.cell? ⟨w.heap.size, 7, none⟩ = some (.slice a.A a.rs.length a.cR) ∧ W'.cell? ⟨w.heap.size, 8, none⟩ = some (.slice a.D a.ds.length a.cD)) W) := Lib.hid (fun W h => ⟨h, below_some h _ _ _ cl0, below_some h _ _ _ cl1, below_some h _ _ _ cl2, below_some h _ _ _ cl3, below_some h _ _ _ cl4, below_some h _ _ _ cl5, below_some h _ _ _ cl6, below_some h _ _ _ cl7, below_some h _ _ _ cl8, below_some h _ _ _ cl9, below_some h _ _ _ cl10, below_some h _ _ _ cl11, below_some h _ _ _ cl12, below_some h _ _ _ cl13, below_some h _ _ _ cl14, below_some h _ _ _ cl15, below_some h _ _ _ cl16, below_some h _ _ _ cl17⟩)
  go_region_held3 (fun W' => Below w9.heap.size w9 W' ∧ W'.cell? ⟨w8.heap.size, 0, none⟩ = some (.bool z.o0) ∧ W'.cell? ⟨w8.heap.size, 1, none⟩ = some (.bool z.o1) ∧ W'.cell? ⟨w8.heap.size, 2, none⟩ = some (.bool z.o2) ∧ W'.cell? ⟨w8.heap.size, 3, none⟩ = some (.bool z.o3) ∧ W'.cell? ⟨w8.heap.size, 4, none⟩ = some (.bool z.o4) ∧ W'.cell? ⟨w8.heap.size, 5, none⟩ = some (.bool z.o5) ∧ W'.cell? ⟨w8.heap.size, 6, none⟩ = some (.bool z.o6) ∧ W'.cell? ⟨w8.heap.size, 7, none⟩ = some (.slice z.A z.rs.length z.cR) ∧ W'.cell? ⟨w8.heap.size, 8, none⟩ = some (.slice z.D z.ds.length z.cD) ∧ W'.cell? ⟨w.heap.size, 0, none⟩ = some (.bool a.o0) ∧ W'.cell? ⟨w.heap.size, 1, none⟩ = some (.bool a.o1) ∧ W'.cell? ⟨w.heap.size, 2, none⟩ = some (.bool a.o2) ∧ W'.cell? ⟨w.heap.size, 3, none⟩ = some (.bool a.o3) ∧ W'.cell? ⟨w.heap.size, 4, none⟩ = some (.bool a.o4) ∧ W'.cell? ⟨w.heap.size, 5, none⟩ = some (.bool a.o5) ∧ W'.cell? ⟨w.heap.size, 6, none⟩ = some (.bool a.o6) ∧ W'.cell? ⟨w.heap.size, 7, none⟩ = some (.slice a.A a.rs.length a.cR) ∧ W'.cell? ⟨w.heap.size, 8, none⟩ = some (.slice a.D a.ds.length a.cD)) ((refine HS.out _ ?_; repeat (first | (with_reducible assumption) | (with_reducible exact Below.refl _ _) | (with_reducible refine Below.drew ?_) | (with_reducible refine below_drewN' ?_ _) | (with_reducible refine below_al ?_) | ((with_reducible refine below_set ?_ ?_); rotate_left; focus (first | (simp; done) | (simp; omega)))))) (first | (go_at_call_of 36 (Value.agg #[.bool z.o0, .bool z.o1, .bool z.o2, .bool z.o3, .bool z.o4, .bool z.o5, .bool z.o6, .slice z.A z.rs.length z.cR, .slice z.D z.ds.length z.cD]); refine (calIs_c z n okz.out _ (hL9.out.below (by repeat (first | (with_reducible assumption) | (with_reducible exact Below.refl _ _) | (with_reducible refine Below.drew ?_) | (with_reducible refine below_drewN' ?_ _) | (with_reducible refine below_al ?_) | ((with_reducible refine below_set ?_ ?_); rotate_left; focus (first | (simp; done) | (simp; omega)))))) (iz9.out.below (by repeat (first | (with_reducible assumption) | (with_reducible exact Below.refl _ _) | (with_reducible refine Below.drew ?_) | (with_reducible refine below_drewN' ?_ _) | (with_reducible refine below_al ?_) | ((with_reducible refine below_set ?_ ?_); rotate_left; focus (first | (simp; done) | (simp; omega))))))).mono ?_; rintro e wq ⟨rfl, hbq⟩; have hBq := below_step (w := w9) hbq (by repeat (first | (with_reducible assumption) | (with_reducible exact Below.refl _ _) | (with_reducible refine Below.drew ?_) | (with_reducible refine below_drewN' ?_ _) | (with_reducible refine below_al ?_) | ((with_reducible refine below_set ?_ ?_); rotate_left; focus (first | (simp; done) | (simp; omega)))))) | (go_at_call_of 36 (Value.agg #[.bool a.o0, .bool a.o1, .bool a.o2, .bool a.o3, .bool a.o4, .bool a.o5, .bool a.o6, .slice a.A a.rs.length a.cR, .slice a.D a.ds.length a.cD]); refine (calIs_c a n hka.out _ (hL9.out.below (by repeat (first | (with_reducible assumption) | (with_reducible exact Below.refl _ _) | (with_reducible refine Below.drew ?_) | (with_reducible refine below_drewN' ?_ _) | (with_reducible refine below_al ?_) | ((with_reducible refine below_set ?_ ?_); rotate_left; focus (first | (simp; done) | (simp; omega)))))) (ia9.out.below (by repeat (first | (with_reducible assumption) | (with_reducible exact Below.refl _ _) | (with_reducible refine Below.drew ?_) | (with_reducible refine below_drewN' ?_ _) | (with_reducible refine below_al ?_) | ((with_reducible refine below_set ?_ ?_); rotate_left; focus (first | (simp; done) | (simp; omega))))))).mono ?_; rintro e wq ⟨rfl, hbq⟩; have hBq := below_step (w := w9) hbq (by repeat (first | (with_reducible assumption) | (with_reducible exact Below.refl _ _) | (with_reducible refine Below.drew ?_) | (with_reducible refine below_drewN' ?_ _) | (with_reducible refine below_al ?_) | ((with_reducible refine below_set ?_ ?_); rotate_left; focus (first | (simp; done) | (simp; omega)))))))
  have h9 := Lib.hid hBq; clear cl0 cl1 cl2 cl3 cl4 cl5 cl6 cl7 cl8 cl9 cl10 cl11 cl12 cl13 cl14 cl15 cl16 cl17
  have da0 := below_some h9.out _ _ _ Fa0.out
  have da1 := below_some h9.out _ _ _ Fa1.out
  have da2 := below_some h9.out _ _ _ Fa2.out
  have da3 := below_some h9.out _ _ _ Fa3.out
  have da4 := below_some h9.out _ _ _ Fa4.out
  have da5 := below_some h9.out _ _ _ Fa5.out
  have da6 := below_some h9.out _ _ _ Fa6.out
  have da7 := below_some h9.out _ _ _ Fa7.out
  have da8 := below_some h9.out _ _ _ Fa8.out
  (try go_simp); (repeat (first | ((with_reducible refine wp_region_app ?_); simp only [List.cons_append, List.nil_append]) | go_values | go_skip | go_guarded | go_step | go_upon))
  refine (calIs_c a n hka.out _ (hL9.out.below (by have h9 := h9.out; repeat (first | (with_reducible assumption) | (with_reducible exact Below.refl _ _) | (with_reducible refine Below.drew ?_) | (with_reducible refine below_drewN' ?_ _) | (with_reducible refine below_al ?_) | ((with_reducible refine below_set ?_ ?_); rotate_left; focus (first | (simp; done) | (simp; omega)))))) (ia9.out.below (by have h9 := h9.out; repeat (first | (with_reducible assumption) | (with_reducible exact Below.refl _ _) | (with_reducible refine Below.drew ?_) | (with_reducible refine below_drewN' ?_ _) | (with_reducible refine below_al ?_) | ((with_reducible refine below_set ?_ ?_); rotate_left; focus (first | (simp; done) | (simp; omega))))))).mono ?_; rintro e w10 ⟨rfl, hb⟩
  have h9' := Lib.hid (below_step (w := w9) hb (by have h9 := h9.out; repeat (first | (with_reducible assumption) | (with_reducible exact Below.refl _ _) | (with_reducible refine Below.drew ?_) | (with_reducible refine below_drewN' ?_ _) | (with_reducible refine below_al ?_) | ((with_reducible refine below_set ?_ ?_); rotate_left; focus (first | (simp; done) | (simp; omega)))))); clear h9; have h9 := h9'; clear h9' hb
  clear da0 da1 da2 da3 da4 da5 da6 da7 da8
  have db0 := below_some h9.out _ _ _ Fb0.out
  have db1 := below_some h9.out _ _ _ Fb1.out
  have db2 := below_some h9.out _ _ _ Fb2.out
  have db3 := below_some h9.out _ _ _ Fb3.out
  have db4 := below_some h9.out _ _ _ Fb4.out
  have db5 := below_some h9.out _ _ _ Fb5.out
  have db6 := below_some h9.out _ _ _ Fb6.out
  have db7 := below_some h9.out _ _ _ Fb7.out
  have db8 := below_some h9.out _ _ _ Fb8.out
  (try go_simp); (repeat (first | ((with_reducible refine wp_region_app ?_); simp only [List.cons_append, List.nil_append]) | go_values | go_skip | go_guarded | go_step | go_upon))
  refine (calIs_c b n hkb.out _ (hL9.out.below (by have h9 := h9.out; repeat (first | (with_reducible assumption) | (with_reducible exact Below.refl _ _) | (with_reducible refine Below.drew ?_) | (with_reducible refine below_drewN' ?_ _) | (with_reducible refine below_al ?_) | ((with_reducible refine below_set ?_ ?_); rotate_left; focus (first | (simp; done) | (simp; omega)))))) (ib9.out.below (by have h9 := h9.out; repeat (first | (with_reducible assumption) | (with_reducible exact Below.refl _ _) | (with_reducible refine Below.drew ?_) | (with_reducible refine below_drewN' ?_ _) | (with_reducible refine below_al ?_) | ((with_reducible refine below_set ?_ ?_); rotate_left; focus (first | (simp; done) | (simp; omega))))))).mono ?_; rintro e w11 ⟨rfl, hb⟩
  have h9' := Lib.hid (below_step (w := w9) hb (by have h9 := h9.out; repeat (first | (with_reducible assumption) | (with_reducible exact Below.refl _ _) | (with_reducible refine Below.drew ?_) | (with_reducible refine below_drewN' ?_ _) | (with_reducible refine below_al ?_) | ((with_reducible refine below_set ?_ ?_); rotate_left; focus (first | (simp; done) | (simp; omega)))))); clear h9; have h9 := h9'; clear h9' hb
  clear db0 db1 db2 db3 db4 db5 db6 db7 db8
  have ex2 := ex.out; rw [ha, hbv] at ex2; have ey2 := ey.out; rw [ha, hbv] at ey2; have mx := HMx.out
  have dx0 := below_some h9.out _ _ _ Fx0.out
  have dx1 := below_some h9.out _ _ _ Fx1.out
  have dx2 := below_some h9.out _ _ _ Fx2.out
  have dx3 := below_some h9.out _ _ _ Fx3.out
  have dx4 := below_some h9.out _ _ _ Fx4.out
  have dx5 := below_some h9.out _ _ _ Fx5.out
  have dx6 := below_some h9.out _ _ _ Fx6.out
  have dx7 := below_some h9.out _ _ _ Fx7.out
  have dx8 := below_some h9.out _ _ _ Fx8.out
  (try go_simp); (repeat (first | ((with_reducible refine wp_region_app ?_); simp only [List.cons_append, List.nil_append]) | go_values | go_skip | go_guarded | go_step | go_upon))
  refine (calMay_c x _ (hL9.out.below (by have h9 := h9.out; repeat (first | (with_reducible assumption) | (with_reducible exact Below.refl _ _) | (with_reducible refine Below.drew ?_) | (with_reducible refine below_drewN' ?_ _) | (with_reducible refine below_al ?_) | ((with_reducible refine below_set ?_ ?_); rotate_left; focus (first | (simp; done) | (simp; omega)))))) (hN9.out.below (by have h9 := h9.out; repeat (first | (with_reducible assumption) | (with_reducible exact Below.refl _ _) | (with_reducible refine Below.drew ?_) | (with_reducible refine below_drewN' ?_ _) | (with_reducible refine below_al ?_) | ((with_reducible refine below_set ?_ ?_); rotate_left; focus (first | (simp; done) | (simp; omega)))))) (ix9.out.below (by have h9 := h9.out; repeat (first | (with_reducible assumption) | (with_reducible exact Below.refl _ _) | (with_reducible refine Below.drew ?_) | (with_reducible refine below_drewN' ?_ _) | (with_reducible refine below_al ?_) | ((with_reducible refine below_set ?_ ?_); rotate_left; focus (first | (simp; done) | (simp; omega))))))).mono ?_; rintro e w12 ⟨rfl, hb⟩
  have h9' := Lib.hid (below_step (w := w9) hb (by have h9 := h9.out; repeat (first | (with_reducible assumption) | (with_reducible exact Below.refl _ _) | (with_reducible refine Below.drew ?_) | (with_reducible refine below_drewN' ?_ _) | (with_reducible refine below_al ?_) | ((with_reducible refine below_set ?_ ?_); rotate_left; focus (first | (simp; done) | (simp; omega)))))); clear h9; have h9 := h9'; clear h9' hb
  clear dx0 dx1 dx2 dx3 dx4 dx5 dx6 dx7 dx8
  have dx0 := below_some h9.out _ _ _ Fx0.out
  have dx1 := below_some h9.out _ _ _ Fx1.out
  have dx2 := below_some h9.out _ _ _ Fx2.out
  have dx3 := below_some h9.out _ _ _ Fx3.out
  have dx4 := below_some h9.out _ _ _ Fx4.out
  have dx5 := below_some h9.out _ _ _ Fx5.out
  have dx6 := below_some h9.out _ _ _ Fx6.out
  have dx7 := below_some h9.out _ _ _ Fx7.out
  have dx8 := below_some h9.out _ _ _ Fx8.out
  (try go_simp); (repeat (first | ((with_reducible refine wp_region_app ?_); simp only [List.cons_append, List.nil_append]) | go_values | go_skip | go_guarded | go_step | go_upon))
  refine (calIs_c x n okx.out _ (hL9.out.below (by have h9 := h9.out; repeat (first | (with_reducible assumption) | (with_reducible exact Below.refl _ _) | (with_reducible refine Below.drew ?_) | (with_reducible refine below_drewN' ?_ _) | (with_reducible refine below_al ?_) | ((with_reducible refine below_set ?_ ?_); rotate_left; focus (first | (simp; done) | (simp; omega)))))) (ix9.out.below (by have h9 := h9.out; repeat (first | (with_reducible assumption) | (with_reducible exact Below.refl _ _) | (with_reducible refine Below.drew ?_) | (with_reducible refine below_drewN' ?_ _) | (with_reducible refine below_al ?_) | ((with_reducible refine below_set ?_ ?_); rotate_left; focus (first | (simp; done) | (simp; omega))))))).mono ?_; rintro e w13 ⟨rfl, hb⟩
  have h9' := Lib.hid (below_step (w := w9) hb (by have h9 := h9.out; repeat (first | (with_reducible assumption) | (with_reducible exact Below.refl _ _) | (with_reducible refine Below.drew ?_) | (with_reducible refine below_drewN' ?_ _) | (with_reducible refine below_al ?_) | ((with_reducible refine below_set ?_ ?_); rotate_left; focus (first | (simp; done) | (simp; omega)))))); clear h9; have h9 := h9'; clear h9' hb
  clear dx0 dx1 dx2 dx3 dx4 dx5 dx6 dx7 dx8
  have dy0 := below_some h9.out _ _ _ Fy0.out
  have dy1 := below_some h9.out _ _ _ Fy1.out
  have dy2 := below_some h9.out _ _ _ Fy2.out
  have dy3 := below_some h9.out _ _ _ Fy3.out
  have dy4 := below_some h9.out _ _ _ Fy4.out
  have dy5 := below_some h9.out _ _ _ Fy5.out
  have dy6 := below_some h9.out _ _ _ Fy6.out
  have dy7 := below_some h9.out _ _ _ Fy7.out
  have dy8 := below_some h9.out _ _ _ Fy8.out
  (try go_simp); (repeat (first | ((with_reducible refine wp_region_app ?_); simp only [List.cons_append, List.nil_append]) | go_values | go_skip | go_guarded | go_step | go_upon))
  refine (calIs_c y n oky.out _ (hL9.out.below (by have h9 := h9.out; repeat (first | (with_reducible assumption) | (with_reducible exact Below.refl _ _) | (with_reducible refine Below.drew ?_) | (with_reducible refine below_drewN' ?_ _) | (with_reducible refine below_al ?_) | ((with_reducible refine below_set ?_ ?_); rotate_left; focus (first | (simp; done) | (simp; omega)))))) (iy9.out.below (by have h9 := h9.out; repeat (first | (with_reducible assumption) | (with_reducible exact Below.refl _ _) | (with_reducible refine Below.drew ?_) | (with_reducible refine below_drewN' ?_ _) | (with_reducible refine below_al ?_) | ((with_reducible refine below_set ?_ ?_); rotate_left; focus (first | (simp; done) | (simp; omega))))))).mono ?_; rintro e w14 ⟨rfl, hb⟩
  have h9' := Lib.hid (below_step (w := w9) hb (by have h9 := h9.out; repeat (first | (with_reducible assumption) | (with_reducible exact Below.refl _ _) | (with_reducible refine Below.drew ?_) | (with_reducible refine below_drewN' ?_ _) | (with_reducible refine below_al ?_) | ((with_reducible refine below_set ?_ ?_); rotate_left; focus (first | (simp; done) | (simp; omega)))))); clear h9; have h9 := h9'; clear h9' hb
  clear dy0 dy1 dy2 dy3 dy4 dy5 dy6 dy7 dy8
  (try go_simp); (repeat (first | ((with_reducible refine wp_region_app ?_); simp only [List.cons_append, List.nil_append]) | go_values | go_skip | go_guarded | go_step | go_upon))
  go_ret
  exact ⟨rfl, hB9.trans (h9.out.mono hB9.size)⟩
set_option maxRecDepth 100000 in
set_option maxHeartbeats 8000000 in
theorem calBoth_fv (a b : CalP) (n : Int) (fa : a.few = true) (fb : b.few = true) (ma : a.may = true) (mb : b.may = true) (uab : uopen a b = true) (vb : Bool) (ha : a.is n = false) (hbv : b.is n = vb) (w : World) (hL : Laid w) (hN : AllOff w) (ia : CalIn w a) (ib : CalIn w b) : Calls Tryd.prog 11 #[.agg #[.bool a.o0, .bool a.o1, .bool a.o2, .bool a.o3, .bool a.o4, .bool a.o5, .bool a.o6, .slice a.A a.rs.length a.cR, .slice a.D a.ds.length a.cD], .agg #[.bool b.o0, .bool b.o1, .bool b.o2, .bool b.o3, .bool b.o4, .bool b.o5, .bool b.o6, .slice b.A b.rs.length b.cR, .slice b.D b.ds.length b.cD], .int .i64 n] w fun e w' => e = .returned (.bool true) ∧ Below w.heap.size w w' := by
  have hka := Lib.hid (CalP.ok ma); have hkb := Lib.hid (CalP.ok mb)
  have uaa : Hid (uopen a a = true) := Lib.hid ((uopen_self a).trans (CalP.may_iff.1 ma).1)
  have uba := Lib.hid ((uopen_comm b a).trans uab)
  have UAB := Lib.hid uab; clear uab
  have HMA := Lib.hid ma; have HMB := Lib.hid mb; have HFA := Lib.hid fa; have HFB := Lib.hid fb
  have hB : Below w.heap.size w w := Below.refl _ _
  go_enter Tryd.func11, Tryd.ntmps11
  (try go_simp); (repeat (first | ((with_reducible refine wp_region_app ?_); simp only [List.cons_append, List.nil_append]) | go_values | go_skip | go_guarded | go_step | go_upon))
  refine (shown13_c _ (hL.below (by repeat (first | assumption | exact Below.refl _ _ | (with_reducible refine Below.drew ?_) | (with_reducible refine below_drewN' ?_ _) | (with_reducible refine below_al ?_) | ((with_reducible refine below_set ?_ ?_); rotate_left; focus (first | (simp; done) | (simp; omega)))))) (hN.below (by repeat (first | assumption | exact Below.refl _ _ | (with_reducible refine Below.drew ?_) | (with_reducible refine below_drewN' ?_ _) | (with_reducible refine below_al ?_) | ((with_reducible refine below_set ?_ ?_); rotate_left; focus (first | (simp; done) | (simp; omega))))))).mono ?_; rintro e w1 ⟨rfl, hb1⟩
  have hz1 := hb1.size; (try simp at hz1); obtain ⟨hc1, hf1⟩ := bcell hb1; have hB1 := below_step (w := w) hb1 (by repeat (first | assumption | exact Below.refl _ _ | (with_reducible refine Below.drew ?_) | (with_reducible refine below_drewN' ?_ _) | (with_reducible refine below_al ?_) | ((with_reducible refine below_set ?_ ?_); rotate_left; focus (first | (simp; done) | (simp; omega)))))
  have le_w_w1 : w.heap.size ≤ w1.heap.size := by omega
  try have lt_w_w1 : w.heap.size < w1.heap.size := by omega
  have le1_w_w1 : w.heap.size + 1 ≤ w1.heap.size := by omega
  try have lt1_w_w1 : w.heap.size + 1 < w1.heap.size := by omega
  (try go_simp); (repeat (first | ((with_reducible refine wp_region_app ?_); simp only [List.cons_append, List.nil_append]) | go_values | go_skip | go_guarded | go_step | go_upon))
  refine (few_c a _).mono ?_; rintro e w2 ⟨rfl, hb2⟩
  have hz2 := hb2.size; (try simp at hz2); obtain ⟨hc2, hf2⟩ := bcell hb2; have hB2 := below_step (w := w) hb2 (by repeat (first | assumption | exact Below.refl _ _ | (with_reducible refine Below.drew ?_) | (with_reducible refine below_drewN' ?_ _) | (with_reducible refine below_al ?_) | ((with_reducible refine below_set ?_ ?_); rotate_left; focus (first | (simp; done) | (simp; omega)))))
  have le_w_w2 : w.heap.size ≤ w2.heap.size := by omega
  try have lt_w_w2 : w.heap.size < w2.heap.size := by omega
  have le1_w_w2 : w.heap.size + 1 ≤ w2.heap.size := by omega
  try have lt1_w_w2 : w.heap.size + 1 < w2.heap.size := by omega
  have le_w1_w2 : w1.heap.size ≤ w2.heap.size := by omega
  try have lt_w1_w2 : w1.heap.size < w2.heap.size := by omega
  (try go_simp); (repeat (first | ((with_reducible refine wp_region_app ?_); simp only [List.cons_append, List.nil_append]) | go_values | go_skip | go_guarded | go_step | go_upon))
  refine (few_c b _).mono ?_; rintro e w3 ⟨rfl, hb3⟩
  have hz3 := hb3.size; (try simp at hz3); obtain ⟨hc3, hf3⟩ := bcell hb3; have hB3 := below_step (w := w) hb3 (by repeat (first | assumption | exact Below.refl _ _ | (with_reducible refine Below.drew ?_) | (with_reducible refine below_drewN' ?_ _) | (with_reducible refine below_al ?_) | ((with_reducible refine below_set ?_ ?_); rotate_left; focus (first | (simp; done) | (simp; omega)))))
  have le_w_w3 : w.heap.size ≤ w3.heap.size := by omega
  try have lt_w_w3 : w.heap.size < w3.heap.size := by omega
  have le1_w_w3 : w.heap.size + 1 ≤ w3.heap.size := by omega
  try have lt1_w_w3 : w.heap.size + 1 < w3.heap.size := by omega
  have le_w1_w3 : w1.heap.size ≤ w3.heap.size := by omega
  try have lt_w1_w3 : w1.heap.size < w3.heap.size := by omega
  have le_w2_w3 : w2.heap.size ≤ w3.heap.size := by omega
  try have lt_w2_w3 : w2.heap.size < w3.heap.size := by omega
  (try go_simp); (repeat (first | ((with_reducible refine wp_region_app ?_); simp only [List.cons_append, List.nil_append]) | go_values | go_skip | go_guarded | go_step | go_upon))
  refine (rcalMay_c a _ (ia.below (by repeat (first | assumption | exact Below.refl _ _ | (with_reducible refine Below.drew ?_) | (with_reducible refine below_drewN' ?_ _) | (with_reducible refine below_al ?_) | ((with_reducible refine below_set ?_ ?_); rotate_left; focus (first | (simp; done) | (simp; omega))))))).mono ?_; rintro e w4 ⟨rfl, hb4⟩
  have hz4 := hb4.size; (try simp at hz4); obtain ⟨hc4, hf4⟩ := bcell hb4; have hB4 := below_step (w := w) hb4 (by repeat (first | assumption | exact Below.refl _ _ | (with_reducible refine Below.drew ?_) | (with_reducible refine below_drewN' ?_ _) | (with_reducible refine below_al ?_) | ((with_reducible refine below_set ?_ ?_); rotate_left; focus (first | (simp; done) | (simp; omega)))))
  have le_w_w4 : w.heap.size ≤ w4.heap.size := by omega
  try have lt_w_w4 : w.heap.size < w4.heap.size := by omega
  have le1_w_w4 : w.heap.size + 1 ≤ w4.heap.size := by omega
  try have lt1_w_w4 : w.heap.size + 1 < w4.heap.size := by omega
  have le_w1_w4 : w1.heap.size ≤ w4.heap.size := by omega
  try have lt_w1_w4 : w1.heap.size < w4.heap.size := by omega
  have le_w2_w4 : w2.heap.size ≤ w4.heap.size := by omega
  try have lt_w2_w4 : w2.heap.size < w4.heap.size := by omega
  have le_w3_w4 : w3.heap.size ≤ w4.heap.size := by omega
  try have lt_w3_w4 : w3.heap.size < w4.heap.size := by omega
  (try go_simp); (repeat (first | ((with_reducible refine wp_region_app ?_); simp only [List.cons_append, List.nil_append]) | go_values | go_skip | go_guarded | go_step | go_upon))
  refine (rcalMay_c b _ (ib.below (by repeat (first | assumption | exact Below.refl _ _ | (with_reducible refine Below.drew ?_) | (with_reducible refine below_drewN' ?_ _) | (with_reducible refine below_al ?_) | ((with_reducible refine below_set ?_ ?_); rotate_left; focus (first | (simp; done) | (simp; omega))))))).mono ?_; rintro e w5 ⟨rfl, hb5⟩
  have hz5 := hb5.size; (try simp at hz5); obtain ⟨hc5, hf5⟩ := bcell hb5; have hB5 := below_step (w := w) hb5 (by repeat (first | assumption | exact Below.refl _ _ | (with_reducible refine Below.drew ?_) | (with_reducible refine below_drewN' ?_ _) | (with_reducible refine below_al ?_) | ((with_reducible refine below_set ?_ ?_); rotate_left; focus (first | (simp; done) | (simp; omega)))))
  have le_w_w5 : w.heap.size ≤ w5.heap.size := by omega
  try have lt_w_w5 : w.heap.size < w5.heap.size := by omega
  have le1_w_w5 : w.heap.size + 1 ≤ w5.heap.size := by omega
  try have lt1_w_w5 : w.heap.size + 1 < w5.heap.size := by omega
  have le_w1_w5 : w1.heap.size ≤ w5.heap.size := by omega
  try have lt_w1_w5 : w1.heap.size < w5.heap.size := by omega
  have le_w2_w5 : w2.heap.size ≤ w5.heap.size := by omega
  try have lt_w2_w5 : w2.heap.size < w5.heap.size := by omega
  have le_w3_w5 : w3.heap.size ≤ w5.heap.size := by omega
  try have lt_w3_w5 : w3.heap.size < w5.heap.size := by omega
  have le_w4_w5 : w4.heap.size ≤ w5.heap.size := by omega
  try have lt_w4_w5 : w4.heap.size < w5.heap.size := by omega
  (try go_simp); (repeat (first | ((with_reducible refine wp_region_app ?_); simp only [List.cons_append, List.nil_append]) | go_values | go_skip | go_guarded | go_step | go_upon))
  refine (union_yes a b HMA.out HMB.out HFA.out HFB.out UAB.out _ (hL.below (by repeat (first | assumption | exact Below.refl _ _ | (with_reducible refine Below.drew ?_) | (with_reducible refine below_drewN' ?_ _) | (with_reducible refine below_al ?_) | ((with_reducible refine below_set ?_ ?_); rotate_left; focus (first | (simp; done) | (simp; omega)))))) (hN.below (by repeat (first | assumption | exact Below.refl _ _ | (with_reducible refine Below.drew ?_) | (with_reducible refine below_drewN' ?_ _) | (with_reducible refine below_al ?_) | ((with_reducible refine below_set ?_ ?_); rotate_left; focus (first | (simp; done) | (simp; omega)))))) (ia.below (by repeat (first | assumption | exact Below.refl _ _ | (with_reducible refine Below.drew ?_) | (with_reducible refine below_drewN' ?_ _) | (with_reducible refine below_al ?_) | ((with_reducible refine below_set ?_ ?_); rotate_left; focus (first | (simp; done) | (simp; omega)))))) (ib.below (by repeat (first | assumption | exact Below.refl _ _ | (with_reducible refine Below.drew ?_) | (with_reducible refine below_drewN' ?_ _) | (with_reducible refine below_al ?_) | ((with_reducible refine below_set ?_ ?_); rotate_left; focus (first | (simp; done) | (simp; omega))))))).mono ?_; rintro e w6 ⟨x, hx, icx, hmx, hb6, rfl⟩
  have Hx := Lib.hid hx; have HMx := Lib.hid hmx; clear hx hmx
  have hz6 := hb6.size; (try simp at hz6); obtain ⟨hc6, hf6⟩ := bcell hb6; have hB6 := below_step (w := w) hb6 (by repeat (first | assumption | exact Below.refl _ _ | (with_reducible refine Below.drew ?_) | (with_reducible refine below_drewN' ?_ _) | (with_reducible refine below_al ?_) | ((with_reducible refine below_set ?_ ?_); rotate_left; focus (first | (simp; done) | (simp; omega)))))
  have le_w_w6 : w.heap.size ≤ w6.heap.size := by omega
  try have lt_w_w6 : w.heap.size < w6.heap.size := by omega
  have ly_w_w6 : w.heap.size < w6.heap.size + 1 := by omega
  have le_w1_w6 : w1.heap.size ≤ w6.heap.size := by omega
  try have lt_w1_w6 : w1.heap.size < w6.heap.size := by omega
  have ly_w1_w6 : w1.heap.size < w6.heap.size + 1 := by omega
  have le_w2_w6 : w2.heap.size ≤ w6.heap.size := by omega
  try have lt_w2_w6 : w2.heap.size < w6.heap.size := by omega
  have ly_w2_w6 : w2.heap.size < w6.heap.size + 1 := by omega
  have le_w3_w6 : w3.heap.size ≤ w6.heap.size := by omega
  try have lt_w3_w6 : w3.heap.size < w6.heap.size := by omega
  have ly_w3_w6 : w3.heap.size < w6.heap.size + 1 := by omega
  have le_w4_w6 : w4.heap.size ≤ w6.heap.size := by omega
  try have lt_w4_w6 : w4.heap.size < w6.heap.size := by omega
  have ly_w4_w6 : w4.heap.size < w6.heap.size + 1 := by omega
  have le_w5_w6 : w5.heap.size ≤ w6.heap.size := by omega
  try have lt_w5_w6 : w5.heap.size < w6.heap.size := by omega
  have ly_w5_w6 : w5.heap.size < w6.heap.size + 1 := by omega
  have lx_w6 : w.heap.size + 1 < w6.heap.size := by omega
  have lz_w6 : w.heap.size + 1 < w6.heap.size + 1 := by omega
  (try go_simp); (repeat (first | ((with_reducible refine wp_region_app ?_); simp only [List.cons_append, List.nil_append]) | go_values | go_skip | go_guarded | go_step | go_upon))
  refine (union_yes b a HMB.out HMA.out HFB.out HFA.out uba.out _ (hL.below (by repeat (first | assumption | exact Below.refl _ _ | (with_reducible refine Below.drew ?_) | (with_reducible refine below_drewN' ?_ _) | (with_reducible refine below_al ?_) | ((with_reducible refine below_set ?_ ?_); rotate_left; focus (first | (simp; done) | (simp; omega)))))) (hN.below (by repeat (first | assumption | exact Below.refl _ _ | (with_reducible refine Below.drew ?_) | (with_reducible refine below_drewN' ?_ _) | (with_reducible refine below_al ?_) | ((with_reducible refine below_set ?_ ?_); rotate_left; focus (first | (simp; done) | (simp; omega)))))) (ib.below (by repeat (first | assumption | exact Below.refl _ _ | (with_reducible refine Below.drew ?_) | (with_reducible refine below_drewN' ?_ _) | (with_reducible refine below_al ?_) | ((with_reducible refine below_set ?_ ?_); rotate_left; focus (first | (simp; done) | (simp; omega)))))) (ia.below (by repeat (first | assumption | exact Below.refl _ _ | (with_reducible refine Below.drew ?_) | (with_reducible refine below_drewN' ?_ _) | (with_reducible refine below_al ?_) | ((with_reducible refine below_set ?_ ?_); rotate_left; focus (first | (simp; done) | (simp; omega))))))).mono ?_; rintro e w7 ⟨y, hy, icy, hmy, hb7, rfl⟩
  have Hy := Lib.hid hy; have HMy := Lib.hid hmy; clear hy hmy
  have hz7 := hb7.size; (try simp at hz7); obtain ⟨hc7, hf7⟩ := bcell hb7; have hB7 := below_step (w := w) hb7 (by repeat (first | assumption | exact Below.refl _ _ | (with_reducible refine Below.drew ?_) | (with_reducible refine below_drewN' ?_ _) | (with_reducible refine below_al ?_) | ((with_reducible refine below_set ?_ ?_); rotate_left; focus (first | (simp; done) | (simp; omega)))))
  have le_w_w7 : w.heap.size ≤ w7.heap.size := by omega
  try have lt_w_w7 : w.heap.size < w7.heap.size := by omega
  have ly_w_w7 : w.heap.size < w7.heap.size + 1 := by omega
  have le_w1_w7 : w1.heap.size ≤ w7.heap.size := by omega
  try have lt_w1_w7 : w1.heap.size < w7.heap.size := by omega
  have ly_w1_w7 : w1.heap.size < w7.heap.size + 1 := by omega
  have le_w2_w7 : w2.heap.size ≤ w7.heap.size := by omega
  try have lt_w2_w7 : w2.heap.size < w7.heap.size := by omega
  have ly_w2_w7 : w2.heap.size < w7.heap.size + 1 := by omega
  have le_w3_w7 : w3.heap.size ≤ w7.heap.size := by omega
  try have lt_w3_w7 : w3.heap.size < w7.heap.size := by omega
  have ly_w3_w7 : w3.heap.size < w7.heap.size + 1 := by omega
  have le_w4_w7 : w4.heap.size ≤ w7.heap.size := by omega
  try have lt_w4_w7 : w4.heap.size < w7.heap.size := by omega
  have ly_w4_w7 : w4.heap.size < w7.heap.size + 1 := by omega
  have le_w5_w7 : w5.heap.size ≤ w7.heap.size := by omega
  try have lt_w5_w7 : w5.heap.size < w7.heap.size := by omega
  have ly_w5_w7 : w5.heap.size < w7.heap.size + 1 := by omega
  have le_w6_w7 : w6.heap.size ≤ w7.heap.size := by omega
  try have lt_w6_w7 : w6.heap.size < w7.heap.size := by omega
  have ly_w6_w7 : w6.heap.size < w7.heap.size + 1 := by omega
  have lx_w7 : w.heap.size + 1 < w7.heap.size := by omega
  have lz_w7 : w.heap.size + 1 < w7.heap.size + 1 := by omega
  (try go_simp); (repeat (first | ((with_reducible refine wp_region_app ?_); simp only [List.cons_append, List.nil_append]) | go_values | go_skip | go_guarded | go_step | go_upon))
  refine (union_yes a a HMA.out HMA.out HFA.out HFA.out uaa.out _ (hL.below (by repeat (first | assumption | exact Below.refl _ _ | (with_reducible refine Below.drew ?_) | (with_reducible refine below_drewN' ?_ _) | (with_reducible refine below_al ?_) | ((with_reducible refine below_set ?_ ?_); rotate_left; focus (first | (simp; done) | (simp; omega)))))) (hN.below (by repeat (first | assumption | exact Below.refl _ _ | (with_reducible refine Below.drew ?_) | (with_reducible refine below_drewN' ?_ _) | (with_reducible refine below_al ?_) | ((with_reducible refine below_set ?_ ?_); rotate_left; focus (first | (simp; done) | (simp; omega)))))) (ia.below (by repeat (first | assumption | exact Below.refl _ _ | (with_reducible refine Below.drew ?_) | (with_reducible refine below_drewN' ?_ _) | (with_reducible refine below_al ?_) | ((with_reducible refine below_set ?_ ?_); rotate_left; focus (first | (simp; done) | (simp; omega)))))) (ia.below (by repeat (first | assumption | exact Below.refl _ _ | (with_reducible refine Below.drew ?_) | (with_reducible refine below_drewN' ?_ _) | (with_reducible refine below_al ?_) | ((with_reducible refine below_set ?_ ?_); rotate_left; focus (first | (simp; done) | (simp; omega))))))).mono ?_; rintro e w8 ⟨z, hz, icz, hmz, hb8, rfl⟩
  have Hz := Lib.hid hz; have HMz := Lib.hid hmz; clear hz hmz
  have hz8 := hb8.size; (try simp at hz8); obtain ⟨hc8, hf8⟩ := bcell hb8; have hB8 := below_step (w := w) hb8 (by repeat (first | assumption | exact Below.refl _ _ | (with_reducible refine Below.drew ?_) | (with_reducible refine below_drewN' ?_ _) | (with_reducible refine below_al ?_) | ((with_reducible refine below_set ?_ ?_); rotate_left; focus (first | (simp; done) | (simp; omega)))))
  have le_w_w8 : w.heap.size ≤ w8.heap.size := by omega
  try have lt_w_w8 : w.heap.size < w8.heap.size := by omega
  have ly_w_w8 : w.heap.size < w8.heap.size + 1 := by omega
  have le_w1_w8 : w1.heap.size ≤ w8.heap.size := by omega
  try have lt_w1_w8 : w1.heap.size < w8.heap.size := by omega
  have ly_w1_w8 : w1.heap.size < w8.heap.size + 1 := by omega
  have le_w2_w8 : w2.heap.size ≤ w8.heap.size := by omega
  try have lt_w2_w8 : w2.heap.size < w8.heap.size := by omega
  have ly_w2_w8 : w2.heap.size < w8.heap.size + 1 := by omega
  have le_w3_w8 : w3.heap.size ≤ w8.heap.size := by omega
  try have lt_w3_w8 : w3.heap.size < w8.heap.size := by omega
  have ly_w3_w8 : w3.heap.size < w8.heap.size + 1 := by omega
  have le_w4_w8 : w4.heap.size ≤ w8.heap.size := by omega
  try have lt_w4_w8 : w4.heap.size < w8.heap.size := by omega
  have ly_w4_w8 : w4.heap.size < w8.heap.size + 1 := by omega
  have le_w5_w8 : w5.heap.size ≤ w8.heap.size := by omega
  try have lt_w5_w8 : w5.heap.size < w8.heap.size := by omega
  have ly_w5_w8 : w5.heap.size < w8.heap.size + 1 := by omega
  have le_w6_w8 : w6.heap.size ≤ w8.heap.size := by omega
  try have lt_w6_w8 : w6.heap.size < w8.heap.size := by omega
  have ly_w6_w8 : w6.heap.size < w8.heap.size + 1 := by omega
  have le_w7_w8 : w7.heap.size ≤ w8.heap.size := by omega
  try have lt_w7_w8 : w7.heap.size < w8.heap.size := by omega
  have ly_w7_w8 : w7.heap.size < w8.heap.size + 1 := by omega
  have lx_w8 : w.heap.size + 1 < w8.heap.size := by omega
  have lz_w8 : w.heap.size + 1 < w8.heap.size + 1 := by omega
  (try go_simp); (repeat (first | ((with_reducible refine wp_region_app ?_); simp only [List.cons_append, List.nil_append]) | go_values | go_skip | go_guarded | go_step | go_upon))
  generalize hW : (w8.alloc _) = w9
  have hB9 : Below w.heap.size w w9 := by rw [← hW]; exact below_al hB8
  have Fa0 : Hid (w9.cell? ⟨w.heap.size, 0, none⟩ = some (.bool a.o0)) := Lib.hid (by rw [← hW]; exact cell_al (below_some hb8 _ _ _ (cell_al (below_some hb7 _ _ _ (cell_al (below_some hb6 _ _ _ (below_some hb5 _ _ _ (below_some hb4 _ _ _ (below_some hb3 _ _ _ (below_some hb2 _ _ _ (below_some hb1 _ _ _ (cell_al (cell_nu rfl rfl)))))))))))))
  have Fa1 : Hid (w9.cell? ⟨w.heap.size, 1, none⟩ = some (.bool a.o1)) := Lib.hid (by rw [← hW]; exact cell_al (below_some hb8 _ _ _ (cell_al (below_some hb7 _ _ _ (cell_al (below_some hb6 _ _ _ (below_some hb5 _ _ _ (below_some hb4 _ _ _ (below_some hb3 _ _ _ (below_some hb2 _ _ _ (below_some hb1 _ _ _ (cell_al (cell_nu rfl rfl)))))))))))))
  have Fa2 : Hid (w9.cell? ⟨w.heap.size, 2, none⟩ = some (.bool a.o2)) := Lib.hid (by rw [← hW]; exact cell_al (below_some hb8 _ _ _ (cell_al (below_some hb7 _ _ _ (cell_al (below_some hb6 _ _ _ (below_some hb5 _ _ _ (below_some hb4 _ _ _ (below_some hb3 _ _ _ (below_some hb2 _ _ _ (below_some hb1 _ _ _ (cell_al (cell_nu rfl rfl)))))))))))))
  have Fa3 : Hid (w9.cell? ⟨w.heap.size, 3, none⟩ = some (.bool a.o3)) := Lib.hid (by rw [← hW]; exact cell_al (below_some hb8 _ _ _ (cell_al (below_some hb7 _ _ _ (cell_al (below_some hb6 _ _ _ (below_some hb5 _ _ _ (below_some hb4 _ _ _ (below_some hb3 _ _ _ (below_some hb2 _ _ _ (below_some hb1 _ _ _ (cell_al (cell_nu rfl rfl)))))))))))))
  have Fa4 : Hid (w9.cell? ⟨w.heap.size, 4, none⟩ = some (.bool a.o4)) := Lib.hid (by rw [← hW]; exact cell_al (below_some hb8 _ _ _ (cell_al (below_some hb7 _ _ _ (cell_al (below_some hb6 _ _ _ (below_some hb5 _ _ _ (below_some hb4 _ _ _ (below_some hb3 _ _ _ (below_some hb2 _ _ _ (below_some hb1 _ _ _ (cell_al (cell_nu rfl rfl)))))))))))))
  have Fa5 : Hid (w9.cell? ⟨w.heap.size, 5, none⟩ = some (.bool a.o5)) := Lib.hid (by rw [← hW]; exact cell_al (below_some hb8 _ _ _ (cell_al (below_some hb7 _ _ _ (cell_al (below_some hb6 _ _ _ (below_some hb5 _ _ _ (below_some hb4 _ _ _ (below_some hb3 _ _ _ (below_some hb2 _ _ _ (below_some hb1 _ _ _ (cell_al (cell_nu rfl rfl)))))))))))))
  have Fa6 : Hid (w9.cell? ⟨w.heap.size, 6, none⟩ = some (.bool a.o6)) := Lib.hid (by rw [← hW]; exact cell_al (below_some hb8 _ _ _ (cell_al (below_some hb7 _ _ _ (cell_al (below_some hb6 _ _ _ (below_some hb5 _ _ _ (below_some hb4 _ _ _ (below_some hb3 _ _ _ (below_some hb2 _ _ _ (below_some hb1 _ _ _ (cell_al (cell_nu rfl rfl)))))))))))))
  have Fa7 : Hid (w9.cell? ⟨w.heap.size, 7, none⟩ = some (.slice a.A a.rs.length a.cR)) := Lib.hid (by rw [← hW]; exact cell_al (below_some hb8 _ _ _ (cell_al (below_some hb7 _ _ _ (cell_al (below_some hb6 _ _ _ (below_some hb5 _ _ _ (below_some hb4 _ _ _ (below_some hb3 _ _ _ (below_some hb2 _ _ _ (below_some hb1 _ _ _ (cell_al (cell_nu rfl rfl)))))))))))))
  have Fa8 : Hid (w9.cell? ⟨w.heap.size, 8, none⟩ = some (.slice a.D a.ds.length a.cD)) := Lib.hid (by rw [← hW]; exact cell_al (below_some hb8 _ _ _ (cell_al (below_some hb7 _ _ _ (cell_al (below_some hb6 _ _ _ (below_some hb5 _ _ _ (below_some hb4 _ _ _ (below_some hb3 _ _ _ (below_some hb2 _ _ _ (below_some hb1 _ _ _ (cell_al (cell_nu rfl rfl)))))))))))))
  have Fb0 : Hid (w9.cell? ⟨w.heap.size + 1, 0, none⟩ = some (.bool b.o0)) := Lib.hid (by rw [← hW]; exact cell_al (below_some hb8 _ _ _ (cell_al (below_some hb7 _ _ _ (cell_al (below_some hb6 _ _ _ (below_some hb5 _ _ _ (below_some hb4 _ _ _ (below_some hb3 _ _ _ (below_some hb2 _ _ _ (below_some hb1 _ _ _ (cell_nu (by simp) rfl))))))))))))
  have Fb1 : Hid (w9.cell? ⟨w.heap.size + 1, 1, none⟩ = some (.bool b.o1)) := Lib.hid (by rw [← hW]; exact cell_al (below_some hb8 _ _ _ (cell_al (below_some hb7 _ _ _ (cell_al (below_some hb6 _ _ _ (below_some hb5 _ _ _ (below_some hb4 _ _ _ (below_some hb3 _ _ _ (below_some hb2 _ _ _ (below_some hb1 _ _ _ (cell_nu (by simp) rfl))))))))))))
  have Fb2 : Hid (w9.cell? ⟨w.heap.size + 1, 2, none⟩ = some (.bool b.o2)) := Lib.hid (by rw [← hW]; exact cell_al (below_some hb8 _ _ _ (cell_al (below_some hb7 _ _ _ (cell_al (below_some hb6 _ _ _ (below_some hb5 _ _ _ (below_some hb4 _ _ _ (below_some hb3 _ _ _ (below_some hb2 _ _ _ (below_some hb1 _ _ _ (cell_nu (by simp) rfl))))))))))))
  have Fb3 : Hid (w9.cell? ⟨w.heap.size + 1, 3, none⟩ = some (.bool b.o3)) := Lib.hid (by rw [← hW]; exact cell_al (below_some hb8 _ _ _ (cell_al (below_some hb7 _ _ _ (cell_al (below_some hb6 _ _ _ (below_some hb5 _ _ _ (below_some hb4 _ _ _ (below_some hb3 _ _ _ (below_some hb2 _ _ _ (below_some hb1 _ _ _ (cell_nu (by simp) rfl))))))))))))
  have Fb4 : Hid (w9.cell? ⟨w.heap.size + 1, 4, none⟩ = some (.bool b.o4)) := Lib.hid (by rw [← hW]; exact cell_al (below_some hb8 _ _ _ (cell_al (below_some hb7 _ _ _ (cell_al (below_some hb6 _ _ _ (below_some hb5 _ _ _ (below_some hb4 _ _ _ (below_some hb3 _ _ _ (below_some hb2 _ _ _ (below_some hb1 _ _ _ (cell_nu (by simp) rfl))))))))))))
  have Fb5 : Hid (w9.cell? ⟨w.heap.size + 1, 5, none⟩ = some (.bool b.o5)) := Lib.hid (by rw [← hW]; exact cell_al (below_some hb8 _ _ _ (cell_al (below_some hb7 _ _ _ (cell_al (below_some hb6 _ _ _ (below_some hb5 _ _ _ (below_some hb4 _ _ _ (below_some hb3 _ _ _ (below_some hb2 _ _ _ (below_some hb1 _ _ _ (cell_nu (by simp) rfl))))))))))))
  have Fb6 : Hid (w9.cell? ⟨w.heap.size + 1, 6, none⟩ = some (.bool b.o6)) := Lib.hid (by rw [← hW]; exact cell_al (below_some hb8 _ _ _ (cell_al (below_some hb7 _ _ _ (cell_al (below_some hb6 _ _ _ (below_some hb5 _ _ _ (below_some hb4 _ _ _ (below_some hb3 _ _ _ (below_some hb2 _ _ _ (below_some hb1 _ _ _ (cell_nu (by simp) rfl))))))))))))
  have Fb7 : Hid (w9.cell? ⟨w.heap.size + 1, 7, none⟩ = some (.slice b.A b.rs.length b.cR)) := Lib.hid (by rw [← hW]; exact cell_al (below_some hb8 _ _ _ (cell_al (below_some hb7 _ _ _ (cell_al (below_some hb6 _ _ _ (below_some hb5 _ _ _ (below_some hb4 _ _ _ (below_some hb3 _ _ _ (below_some hb2 _ _ _ (below_some hb1 _ _ _ (cell_nu (by simp) rfl))))))))))))
  have Fb8 : Hid (w9.cell? ⟨w.heap.size + 1, 8, none⟩ = some (.slice b.D b.ds.length b.cD)) := Lib.hid (by rw [← hW]; exact cell_al (below_some hb8 _ _ _ (cell_al (below_some hb7 _ _ _ (cell_al (below_some hb6 _ _ _ (below_some hb5 _ _ _ (below_some hb4 _ _ _ (below_some hb3 _ _ _ (below_some hb2 _ _ _ (below_some hb1 _ _ _ (cell_nu (by simp) rfl))))))))))))
  have Fz0 : Hid (w9.cell? ⟨w8.heap.size, 0, none⟩ = some (.bool z.o0)) := Lib.hid (by rw [← hW]; exact cell_nu rfl rfl)
  have Fz1 : Hid (w9.cell? ⟨w8.heap.size, 1, none⟩ = some (.bool z.o1)) := Lib.hid (by rw [← hW]; exact cell_nu rfl rfl)
  have Fz2 : Hid (w9.cell? ⟨w8.heap.size, 2, none⟩ = some (.bool z.o2)) := Lib.hid (by rw [← hW]; exact cell_nu rfl rfl)
  have Fz3 : Hid (w9.cell? ⟨w8.heap.size, 3, none⟩ = some (.bool z.o3)) := Lib.hid (by rw [← hW]; exact cell_nu rfl rfl)
  have Fz4 : Hid (w9.cell? ⟨w8.heap.size, 4, none⟩ = some (.bool z.o4)) := Lib.hid (by rw [← hW]; exact cell_nu rfl rfl)
  have Fz5 : Hid (w9.cell? ⟨w8.heap.size, 5, none⟩ = some (.bool z.o5)) := Lib.hid (by rw [← hW]; exact cell_nu rfl rfl)
  have Fz6 : Hid (w9.cell? ⟨w8.heap.size, 6, none⟩ = some (.bool z.o6)) := Lib.hid (by rw [← hW]; exact cell_nu rfl rfl)
  have Fz7 : Hid (w9.cell? ⟨w8.heap.size, 7, none⟩ = some (.slice z.A z.rs.length z.cR)) := Lib.hid (by rw [← hW]; exact cell_nu rfl rfl)
  have Fz8 : Hid (w9.cell? ⟨w8.heap.size, 8, none⟩ = some (.slice z.D z.ds.length z.cD)) := Lib.hid (by rw [← hW]; exact cell_nu rfl rfl)
  have Fx0 : Hid (w9.cell? ⟨w6.heap.size, 0, none⟩ = some (.bool x.o0)) := Lib.hid (by rw [← hW]; exact cell_al (below_some hb8 _ _ _ (cell_al (below_some hb7 _ _ _ (cell_nu rfl rfl)))))
  have Fx1 : Hid (w9.cell? ⟨w6.heap.size, 1, none⟩ = some (.bool x.o1)) := Lib.hid (by rw [← hW]; exact cell_al (below_some hb8 _ _ _ (cell_al (below_some hb7 _ _ _ (cell_nu rfl rfl)))))
  have Fx2 : Hid (w9.cell? ⟨w6.heap.size, 2, none⟩ = some (.bool x.o2)) := Lib.hid (by rw [← hW]; exact cell_al (below_some hb8 _ _ _ (cell_al (below_some hb7 _ _ _ (cell_nu rfl rfl)))))
  have Fx3 : Hid (w9.cell? ⟨w6.heap.size, 3, none⟩ = some (.bool x.o3)) := Lib.hid (by rw [← hW]; exact cell_al (below_some hb8 _ _ _ (cell_al (below_some hb7 _ _ _ (cell_nu rfl rfl)))))
  have Fx4 : Hid (w9.cell? ⟨w6.heap.size, 4, none⟩ = some (.bool x.o4)) := Lib.hid (by rw [← hW]; exact cell_al (below_some hb8 _ _ _ (cell_al (below_some hb7 _ _ _ (cell_nu rfl rfl)))))
  have Fx5 : Hid (w9.cell? ⟨w6.heap.size, 5, none⟩ = some (.bool x.o5)) := Lib.hid (by rw [← hW]; exact cell_al (below_some hb8 _ _ _ (cell_al (below_some hb7 _ _ _ (cell_nu rfl rfl)))))
  have Fx6 : Hid (w9.cell? ⟨w6.heap.size, 6, none⟩ = some (.bool x.o6)) := Lib.hid (by rw [← hW]; exact cell_al (below_some hb8 _ _ _ (cell_al (below_some hb7 _ _ _ (cell_nu rfl rfl)))))
  have Fx7 : Hid (w9.cell? ⟨w6.heap.size, 7, none⟩ = some (.slice x.A x.rs.length x.cR)) := Lib.hid (by rw [← hW]; exact cell_al (below_some hb8 _ _ _ (cell_al (below_some hb7 _ _ _ (cell_nu rfl rfl)))))
  have Fx8 : Hid (w9.cell? ⟨w6.heap.size, 8, none⟩ = some (.slice x.D x.ds.length x.cD)) := Lib.hid (by rw [← hW]; exact cell_al (below_some hb8 _ _ _ (cell_al (below_some hb7 _ _ _ (cell_nu rfl rfl)))))
  have Fy0 : Hid (w9.cell? ⟨w7.heap.size, 0, none⟩ = some (.bool y.o0)) := Lib.hid (by rw [← hW]; exact cell_al (below_some hb8 _ _ _ (cell_nu rfl rfl)))
  have Fy1 : Hid (w9.cell? ⟨w7.heap.size, 1, none⟩ = some (.bool y.o1)) := Lib.hid (by rw [← hW]; exact cell_al (below_some hb8 _ _ _ (cell_nu rfl rfl)))
  have Fy2 : Hid (w9.cell? ⟨w7.heap.size, 2, none⟩ = some (.bool y.o2)) := Lib.hid (by rw [← hW]; exact cell_al (below_some hb8 _ _ _ (cell_nu rfl rfl)))
  have Fy3 : Hid (w9.cell? ⟨w7.heap.size, 3, none⟩ = some (.bool y.o3)) := Lib.hid (by rw [← hW]; exact cell_al (below_some hb8 _ _ _ (cell_nu rfl rfl)))
  have Fy4 : Hid (w9.cell? ⟨w7.heap.size, 4, none⟩ = some (.bool y.o4)) := Lib.hid (by rw [← hW]; exact cell_al (below_some hb8 _ _ _ (cell_nu rfl rfl)))
  have Fy5 : Hid (w9.cell? ⟨w7.heap.size, 5, none⟩ = some (.bool y.o5)) := Lib.hid (by rw [← hW]; exact cell_al (below_some hb8 _ _ _ (cell_nu rfl rfl)))
  have Fy6 : Hid (w9.cell? ⟨w7.heap.size, 6, none⟩ = some (.bool y.o6)) := Lib.hid (by rw [← hW]; exact cell_al (below_some hb8 _ _ _ (cell_nu rfl rfl)))
  have Fy7 : Hid (w9.cell? ⟨w7.heap.size, 7, none⟩ = some (.slice y.A y.rs.length y.cR)) := Lib.hid (by rw [← hW]; exact cell_al (below_some hb8 _ _ _ (cell_nu rfl rfl)))
  have Fy8 : Hid (w9.cell? ⟨w7.heap.size, 8, none⟩ = some (.slice y.D y.ds.length y.cD)) := Lib.hid (by rw [← hW]; exact cell_al (below_some hb8 _ _ _ (cell_nu rfl rfl)))
  have hL9 := Lib.hid (hL.below hB9); have hN9 := Lib.hid (hN.below hB9); have ia9 := Lib.hid (ia.below hB9); have ib9 := Lib.hid (ib.below hB9)
  have iz9 : Hid (CalIn w9 z) := Lib.hid (by rw [← hW]; exact icz.below (below_al (Below.refl _ _)))
  have okz := Lib.hid (CalP.ok HMz.out)
  have ez : Hid (z.is n = a.is n) := Lib.hid ((uni_is Hz.out n).trans (Bool.and_self _))
  have ix9 : Hid (CalIn w9 x) := Lib.hid (by rw [← hW]; exact icx.below (below_step (w := w6) hb7 (below_al (Below.refl _ _)) |> fun h => below_al (below_step (w := w6) hb8 (below_al h))))
  have iy9 : Hid (CalIn w9 y) := Lib.hid (by rw [← hW]; exact icy.below (below_al (below_step (w := w7) hb8 (below_al (Below.refl _ _)))))
  have okx := Lib.hid (CalP.ok HMx.out); have oky := Lib.hid (CalP.ok HMy.out)
  have ex : Hid (x.is n = (a.is n && b.is n)) := Lib.hid (uni_is Hx.out n)
  have ey : Hid (y.is n = (a.is n && b.is n)) := Lib.hid ((uni_is Hy.out n).trans (Bool.and_comm _ _))
  clear hW ia ib hL hN icz icx icy
  clear hc1 hf1 hc2 hf2 hc3 hf3 hc4 hf4 hc5 hf5 hc6 hf6 hc7 hf7 hc8 hf8
  try clear lx_w
  try clear lz_w
  try clear le_w_w1
  try clear lt_w_w1
  try clear le1_w_w1
  try clear lt1_w_w1
  try clear ly_w_w1
  try clear lx_w1
  try clear lz_w1
  try clear le_w_w2
  try clear lt_w_w2
  try clear le1_w_w2
  try clear lt1_w_w2
  try clear ly_w_w2
  try clear le_w1_w2
  try clear lt_w1_w2
  try clear le1_w1_w2
  try clear lt1_w1_w2
  try clear ly_w1_w2
  try clear lx_w2
  try clear lz_w2
  try clear le_w_w3
  try clear lt_w_w3
  try clear le1_w_w3
  try clear lt1_w_w3
  try clear ly_w_w3
  try clear le_w1_w3
  try clear lt_w1_w3
  try clear le1_w1_w3
  try clear lt1_w1_w3
  try clear ly_w1_w3
  try clear le_w2_w3
  try clear lt_w2_w3
  try clear le1_w2_w3
  try clear lt1_w2_w3
  try clear ly_w2_w3
  try clear lx_w3
  try clear lz_w3
  try clear le_w_w4
  try clear lt_w_w4
  try clear le1_w_w4
  try clear lt1_w_w4
  try clear ly_w_w4
  try clear le_w1_w4
  try clear lt_w1_w4
  try clear le1_w1_w4
  try clear lt1_w1_w4
  try clear ly_w1_w4
  try clear le_w2_w4
  try clear lt_w2_w4
  try clear le1_w2_w4
  try clear lt1_w2_w4
  try clear ly_w2_w4
  try clear le_w3_w4
  try clear lt_w3_w4
  try clear le1_w3_w4
  try clear lt1_w3_w4
  try clear ly_w3_w4
  try clear lx_w4
  try clear lz_w4
  try clear le_w_w5
  try clear lt_w_w5
  try clear le1_w_w5
  try clear lt1_w_w5
  try clear ly_w_w5
  try clear le_w1_w5
  try clear lt_w1_w5
  try clear le1_w1_w5
  try clear lt1_w1_w5
  try clear ly_w1_w5
  try clear le_w2_w5
  try clear lt_w2_w5
  try clear le1_w2_w5
  try clear lt1_w2_w5
  try clear ly_w2_w5
  try clear le_w3_w5
  try clear lt_w3_w5
  try clear le1_w3_w5
  try clear lt1_w3_w5
  try clear ly_w3_w5
  try clear le_w4_w5
  try clear lt_w4_w5
  try clear le1_w4_w5
  try clear lt1_w4_w5
  try clear ly_w4_w5
  try clear lx_w5
  try clear lz_w5
  try clear le_w_w6
  try clear lt_w_w6
  try clear le1_w_w6
  try clear lt1_w_w6
  try clear ly_w_w6
  try clear le_w1_w6
  try clear lt_w1_w6
  try clear le1_w1_w6
  try clear lt1_w1_w6
  try clear ly_w1_w6
  try clear le_w2_w6
  try clear lt_w2_w6
  try clear le1_w2_w6
  try clear lt1_w2_w6
  try clear ly_w2_w6
  try clear le_w3_w6
  try clear lt_w3_w6
  try clear le1_w3_w6
  try clear lt1_w3_w6
  try clear ly_w3_w6
  try clear le_w4_w6
  try clear lt_w4_w6
  try clear le1_w4_w6
  try clear lt1_w4_w6
  try clear ly_w4_w6
  try clear le_w5_w6
  try clear lt_w5_w6
  try clear le1_w5_w6
  try clear lt1_w5_w6
  try clear ly_w5_w6
  try clear lx_w6
  try clear lz_w6
  try clear le_w_w7
  try clear lt_w_w7
  try clear le1_w_w7
  try clear lt1_w_w7
  try clear ly_w_w7
  try clear le_w1_w7
  try clear lt_w1_w7
  try clear le1_w1_w7
  try clear lt1_w1_w7
  try clear ly_w1_w7
  try clear le_w2_w7
  try clear lt_w2_w7
  try clear le1_w2_w7
  try clear lt1_w2_w7
  try clear ly_w2_w7
  try clear le_w3_w7
  try clear lt_w3_w7
  try clear le1_w3_w7
  try clear lt1_w3_w7
  try clear ly_w3_w7
  try clear le_w4_w7
  try clear lt_w4_w7
  try clear le1_w4_w7
  try clear lt1_w4_w7
  try clear ly_w4_w7
  try clear le_w5_w7
  try clear lt_w5_w7
  try clear le1_w5_w7
  try clear lt1_w5_w7
  try clear ly_w5_w7
  try clear le_w6_w7
  try clear lt_w6_w7
  try clear le1_w6_w7
  try clear lt1_w6_w7
  try clear ly_w6_w7
  try clear lx_w7
  try clear lz_w7
  try clear le_w_w8
  try clear lt_w_w8
  try clear le1_w_w8
  try clear lt1_w_w8
  try clear ly_w_w8
  try clear le_w1_w8
  try clear lt_w1_w8
  try clear le1_w1_w8
  try clear lt1_w1_w8
  try clear ly_w1_w8
  try clear le_w2_w8
  try clear lt_w2_w8
  try clear le1_w2_w8
  try clear lt1_w2_w8
  try clear ly_w2_w8
  try clear le_w3_w8
  try clear lt_w3_w8
  try clear le1_w3_w8
  try clear lt1_w3_w8
  try clear ly_w3_w8
  try clear le_w4_w8
  try clear lt_w4_w8
  try clear le1_w4_w8
  try clear lt1_w4_w8
  try clear ly_w4_w8
  try clear le_w5_w8
  try clear lt_w5_w8
  try clear le1_w5_w8
  try clear lt1_w5_w8
  try clear ly_w5_w8
  try clear le_w6_w8
  try clear lt_w6_w8
  try clear le1_w6_w8
  try clear lt1_w6_w8
  try clear ly_w6_w8
  try clear le_w7_w8
  try clear lt_w7_w8
  try clear le1_w7_w8
  try clear lt1_w7_w8
  try clear ly_w7_w8
  try clear lx_w8
  try clear lz_w8
  try clear hB1
  try clear hb1
  try clear hz1
  try clear hB2
  try clear hb2
  try clear hz2
  try clear hB3
  try clear hb3
  try clear hz3
  try clear hB4
  try clear hb4
  try clear hz4
  try clear hB5
  try clear hb5
  try clear hz5
  try clear hB6
  try clear hb6
  try clear hz6
  try clear hB7
  try clear hb7
  try clear hz7
  try clear hB8
  try clear hb8
  try clear hz8
  have HKA := hka; have ez2 := ez.out; rw [ha] at ez2
  have cl0 : w9.cell? ⟨w8.heap.size, 0, none⟩ = some (.bool z.o0) := Fz0.out
  have cl1 : w9.cell? ⟨w8.heap.size, 1, none⟩ = some (.bool z.o1) := Fz1.out
  have cl2 : w9.cell? ⟨w8.heap.size, 2, none⟩ = some (.bool z.o2) := Fz2.out
  have cl3 : w9.cell? ⟨w8.heap.size, 3, none⟩ = some (.bool z.o3) := Fz3.out
  have cl4 : w9.cell? ⟨w8.heap.size, 4, none⟩ = some (.bool z.o4) := Fz4.out
  have cl5 : w9.cell? ⟨w8.heap.size, 5, none⟩ = some (.bool z.o5) := Fz5.out
  have cl6 : w9.cell? ⟨w8.heap.size, 6, none⟩ = some (.bool z.o6) := Fz6.out
  have cl7 : w9.cell? ⟨w8.heap.size, 7, none⟩ = some (.slice z.A z.rs.length z.cR) := Fz7.out
  have cl8 : w9.cell? ⟨w8.heap.size, 8, none⟩ = some (.slice z.D z.ds.length z.cD) := Fz8.out
  have cl9 : w9.cell? ⟨w.heap.size, 0, none⟩ = some (.bool a.o0) := Fa0.out
  have cl10 : w9.cell? ⟨w.heap.size, 1, none⟩ = some (.bool a.o1) := Fa1.out
  have cl11 : w9.cell? ⟨w.heap.size, 2, none⟩ = some (.bool a.o2) := Fa2.out
  have cl12 : w9.cell? ⟨w.heap.size, 3, none⟩ = some (.bool a.o3) := Fa3.out
  have cl13 : w9.cell? ⟨w.heap.size, 4, none⟩ = some (.bool a.o4) := Fa4.out
  have cl14 : w9.cell? ⟨w.heap.size, 5, none⟩ = some (.bool a.o5) := Fa5.out
  have cl15 : w9.cell? ⟨w.heap.size, 6, none⟩ = some (.bool a.o6) := Fa6.out
  have cl16 : w9.cell? ⟨w.heap.size, 7, none⟩ = some (.slice a.A a.rs.length a.cR) := Fa7.out
  have cl17 : w9.cell? ⟨w.heap.size, 8, none⟩ = some (.slice a.D a.ds.length a.cD) := Fa8.out
  have hRefl : Below w9.heap.size w9 w9 := Below.refl _ _
  have HS : Hid (∀ W, Below w9.heap.size w9 W → (fun W' => Below w9.heap.size w9 W' ∧ W'.cell? ⟨w8.heap.size, 0, none⟩ = some (.bool z.o0) ∧ W'.cell? ⟨w8.heap.size, 1, none⟩ = some (.bool z.o1) ∧ W'.cell? ⟨w8.heap.size, 2, none⟩ = some (.bool z.o2) ∧ W'.cell? ⟨w8.heap.size, 3, none⟩ = some (.bool z.o3) ∧ W'.cell? ⟨w8.heap.size, 4, none⟩ = some (.bool z.o4) ∧ W'.cell? ⟨w8.heap.size, 5, none⟩ = some (.bool z.o5) ∧ W'.cell? ⟨w8.heap.size, 6, none⟩ = some (.bool z.o6) ∧ W'.cell? ⟨w8.heap.size, 7, none⟩ = some (.slice z.A z.rs.length z.cR) ∧ W'.cell? ⟨w8.heap.size, 8, none⟩ = some (.slice z.D z.ds.length z.cD) ∧ W'.cell? ⟨w.heap.size, 0, none⟩ = some (.bool a.o0) ∧ W'.cell? ⟨w.heap.size, 1, none⟩ = some (.bool a.o1) ∧ W'.cell? ⟨w.heap.size, 2, none⟩ = some (.bool a.o2) ∧ W'.cell? ⟨w.heap.size, 3, none⟩ = some (.bool a.o3) ∧ W'.cell? ⟨w.heap.size, 4, none⟩ = some (.bool a.o4) ∧ W'.cell? ⟨w.heap.size, 5, none⟩ = some (.bool a.o5) ∧ W'.cell? ⟨w.heap.size, 6, none⟩ = some (.bool a.o6) ∧ W'.cell? ⟨w.heap.size, 7, none⟩ = some (.slice a.A a.rs.length a.cR) ∧ W'.cell? ⟨w.heap.size, 8, none⟩ = some (.slice a.D a.ds.length a.cD)) W) := Lib.hid (fun W h => ⟨h, below_some h _ _ _ cl0, below_some h _ _ _ cl1, below_some h _ _ _ cl2, below_some h _ _ _ cl3, below_some h _ _ _ cl4, below_some h _ _ _ cl5, below_some h _ _ _ cl6, below_some h _ _ _ cl7, below_some h _ _ _ cl8, below_some h _ _ _ cl9, below_some h _ _ _ cl10, below_some h _ _ _ cl11, below_some h _ _ _ cl12, below_some h _ _ _ cl13, below_some h _ _ _ cl14, below_some h _ _ _ cl15, below_some h _ _ _ cl16, below_some h _ _ _ cl17⟩)
  go_region_held3 (fun W' => Below w9.heap.size w9 W' ∧ W'.cell? ⟨w8.heap.size, 0, none⟩ = some (.bool z.o0) ∧ W'.cell? ⟨w8.heap.size, 1, none⟩ = some (.bool z.o1) ∧ W'.cell? ⟨w8.heap.size, 2, none⟩ = some (.bool z.o2) ∧ W'.cell? ⟨w8.heap.size, 3, none⟩ = some (.bool z.o3) ∧ W'.cell? ⟨w8.heap.size, 4, none⟩ = some (.bool z.o4) ∧ W'.cell? ⟨w8.heap.size, 5, none⟩ = some (.bool z.o5) ∧ W'.cell? ⟨w8.heap.size, 6, none⟩ = some (.bool z.o6) ∧ W'.cell? ⟨w8.heap.size, 7, none⟩ = some (.slice z.A z.rs.length z.cR) ∧ W'.cell? ⟨w8.heap.size, 8, none⟩ = some (.slice z.D z.ds.length z.cD) ∧ W'.cell? ⟨w.heap.size, 0, none⟩ = some (.bool a.o0) ∧ W'.cell? ⟨w.heap.size, 1, none⟩ = some (.bool a.o1) ∧ W'.cell? ⟨w.heap.size, 2, none⟩ = some (.bool a.o2) ∧ W'.cell? ⟨w.heap.size, 3, none⟩ = some (.bool a.o3) ∧ W'.cell? ⟨w.heap.size, 4, none⟩ = some (.bool a.o4) ∧ W'.cell? ⟨w.heap.size, 5, none⟩ = some (.bool a.o5) ∧ W'.cell? ⟨w.heap.size, 6, none⟩ = some (.bool a.o6) ∧ W'.cell? ⟨w.heap.size, 7, none⟩ = some (.slice a.A a.rs.length a.cR) ∧ W'.cell? ⟨w.heap.size, 8, none⟩ = some (.slice a.D a.ds.length a.cD)) ((refine HS.out _ ?_; repeat (first | (with_reducible assumption) | (with_reducible exact Below.refl _ _) | (with_reducible refine Below.drew ?_) | (with_reducible refine below_drewN' ?_ _) | (with_reducible refine below_al ?_) | ((with_reducible refine below_set ?_ ?_); rotate_left; focus (first | (simp; done) | (simp; omega)))))) (first | (go_at_call_of 36 (Value.agg #[.bool z.o0, .bool z.o1, .bool z.o2, .bool z.o3, .bool z.o4, .bool z.o5, .bool z.o6, .slice z.A z.rs.length z.cR, .slice z.D z.ds.length z.cD]); refine (calIs_c z n okz.out _ (hL9.out.below (by repeat (first | (with_reducible assumption) | (with_reducible exact Below.refl _ _) | (with_reducible refine Below.drew ?_) | (with_reducible refine below_drewN' ?_ _) | (with_reducible refine below_al ?_) | ((with_reducible refine below_set ?_ ?_); rotate_left; focus (first | (simp; done) | (simp; omega)))))) (iz9.out.below (by repeat (first | (with_reducible assumption) | (with_reducible exact Below.refl _ _) | (with_reducible refine Below.drew ?_) | (with_reducible refine below_drewN' ?_ _) | (with_reducible refine below_al ?_) | ((with_reducible refine below_set ?_ ?_); rotate_left; focus (first | (simp; done) | (simp; omega))))))).mono ?_; rintro e wq ⟨rfl, hbq⟩; have hBq := below_step (w := w9) hbq (by repeat (first | (with_reducible assumption) | (with_reducible exact Below.refl _ _) | (with_reducible refine Below.drew ?_) | (with_reducible refine below_drewN' ?_ _) | (with_reducible refine below_al ?_) | ((with_reducible refine below_set ?_ ?_); rotate_left; focus (first | (simp; done) | (simp; omega)))))) | (go_at_call_of 36 (Value.agg #[.bool a.o0, .bool a.o1, .bool a.o2, .bool a.o3, .bool a.o4, .bool a.o5, .bool a.o6, .slice a.A a.rs.length a.cR, .slice a.D a.ds.length a.cD]); refine (calIs_c a n hka.out _ (hL9.out.below (by repeat (first | (with_reducible assumption) | (with_reducible exact Below.refl _ _) | (with_reducible refine Below.drew ?_) | (with_reducible refine below_drewN' ?_ _) | (with_reducible refine below_al ?_) | ((with_reducible refine below_set ?_ ?_); rotate_left; focus (first | (simp; done) | (simp; omega)))))) (ia9.out.below (by repeat (first | (with_reducible assumption) | (with_reducible exact Below.refl _ _) | (with_reducible refine Below.drew ?_) | (with_reducible refine below_drewN' ?_ _) | (with_reducible refine below_al ?_) | ((with_reducible refine below_set ?_ ?_); rotate_left; focus (first | (simp; done) | (simp; omega))))))).mono ?_; rintro e wq ⟨rfl, hbq⟩; have hBq := below_step (w := w9) hbq (by repeat (first | (with_reducible assumption) | (with_reducible exact Below.refl _ _) | (with_reducible refine Below.drew ?_) | (with_reducible refine below_drewN' ?_ _) | (with_reducible refine below_al ?_) | ((with_reducible refine below_set ?_ ?_); rotate_left; focus (first | (simp; done) | (simp; omega)))))))
  have h9 := Lib.hid hBq; clear cl0 cl1 cl2 cl3 cl4 cl5 cl6 cl7 cl8 cl9 cl10 cl11 cl12 cl13 cl14 cl15 cl16 cl17
  have da0 := below_some h9.out _ _ _ Fa0.out
  have da1 := below_some h9.out _ _ _ Fa1.out
  have da2 := below_some h9.out _ _ _ Fa2.out
  have da3 := below_some h9.out _ _ _ Fa3.out
  have da4 := below_some h9.out _ _ _ Fa4.out
  have da5 := below_some h9.out _ _ _ Fa5.out
  have da6 := below_some h9.out _ _ _ Fa6.out
  have da7 := below_some h9.out _ _ _ Fa7.out
  have da8 := below_some h9.out _ _ _ Fa8.out
  (try go_simp); (repeat (first | ((with_reducible refine wp_region_app ?_); simp only [List.cons_append, List.nil_append]) | go_values | go_skip | go_guarded | go_step | go_upon))
  refine (calIs_c a n hka.out _ (hL9.out.below (by have h9 := h9.out; repeat (first | (with_reducible assumption) | (with_reducible exact Below.refl _ _) | (with_reducible refine Below.drew ?_) | (with_reducible refine below_drewN' ?_ _) | (with_reducible refine below_al ?_) | ((with_reducible refine below_set ?_ ?_); rotate_left; focus (first | (simp; done) | (simp; omega)))))) (ia9.out.below (by have h9 := h9.out; repeat (first | (with_reducible assumption) | (with_reducible exact Below.refl _ _) | (with_reducible refine Below.drew ?_) | (with_reducible refine below_drewN' ?_ _) | (with_reducible refine below_al ?_) | ((with_reducible refine below_set ?_ ?_); rotate_left; focus (first | (simp; done) | (simp; omega))))))).mono ?_; rintro e w10 ⟨rfl, hb⟩
  have h9' := Lib.hid (below_step (w := w9) hb (by have h9 := h9.out; repeat (first | (with_reducible assumption) | (with_reducible exact Below.refl _ _) | (with_reducible refine Below.drew ?_) | (with_reducible refine below_drewN' ?_ _) | (with_reducible refine below_al ?_) | ((with_reducible refine below_set ?_ ?_); rotate_left; focus (first | (simp; done) | (simp; omega)))))); clear h9; have h9 := h9'; clear h9' hb
  clear da0 da1 da2 da3 da4 da5 da6 da7 da8
  have ex2 := ex.out; rw [ha, hbv] at ex2; have ey2 := ey.out; rw [ha, hbv] at ey2; have mx := HMx.out
  have dx0 := below_some h9.out _ _ _ Fx0.out
  have dx1 := below_some h9.out _ _ _ Fx1.out
  have dx2 := below_some h9.out _ _ _ Fx2.out
  have dx3 := below_some h9.out _ _ _ Fx3.out
  have dx4 := below_some h9.out _ _ _ Fx4.out
  have dx5 := below_some h9.out _ _ _ Fx5.out
  have dx6 := below_some h9.out _ _ _ Fx6.out
  have dx7 := below_some h9.out _ _ _ Fx7.out
  have dx8 := below_some h9.out _ _ _ Fx8.out
  (try go_simp); (repeat (first | ((with_reducible refine wp_region_app ?_); simp only [List.cons_append, List.nil_append]) | go_values | go_skip | go_guarded | go_step | go_upon))
  refine (calMay_c x _ (hL9.out.below (by have h9 := h9.out; repeat (first | (with_reducible assumption) | (with_reducible exact Below.refl _ _) | (with_reducible refine Below.drew ?_) | (with_reducible refine below_drewN' ?_ _) | (with_reducible refine below_al ?_) | ((with_reducible refine below_set ?_ ?_); rotate_left; focus (first | (simp; done) | (simp; omega)))))) (hN9.out.below (by have h9 := h9.out; repeat (first | (with_reducible assumption) | (with_reducible exact Below.refl _ _) | (with_reducible refine Below.drew ?_) | (with_reducible refine below_drewN' ?_ _) | (with_reducible refine below_al ?_) | ((with_reducible refine below_set ?_ ?_); rotate_left; focus (first | (simp; done) | (simp; omega)))))) (ix9.out.below (by have h9 := h9.out; repeat (first | (with_reducible assumption) | (with_reducible exact Below.refl _ _) | (with_reducible refine Below.drew ?_) | (with_reducible refine below_drewN' ?_ _) | (with_reducible refine below_al ?_) | ((with_reducible refine below_set ?_ ?_); rotate_left; focus (first | (simp; done) | (simp; omega))))))).mono ?_; rintro e w12 ⟨rfl, hb⟩
  have h9' := Lib.hid (below_step (w := w9) hb (by have h9 := h9.out; repeat (first | (with_reducible assumption) | (with_reducible exact Below.refl _ _) | (with_reducible refine Below.drew ?_) | (with_reducible refine below_drewN' ?_ _) | (with_reducible refine below_al ?_) | ((with_reducible refine below_set ?_ ?_); rotate_left; focus (first | (simp; done) | (simp; omega)))))); clear h9; have h9 := h9'; clear h9' hb
  clear dx0 dx1 dx2 dx3 dx4 dx5 dx6 dx7 dx8
  have dx0 := below_some h9.out _ _ _ Fx0.out
  have dx1 := below_some h9.out _ _ _ Fx1.out
  have dx2 := below_some h9.out _ _ _ Fx2.out
  have dx3 := below_some h9.out _ _ _ Fx3.out
  have dx4 := below_some h9.out _ _ _ Fx4.out
  have dx5 := below_some h9.out _ _ _ Fx5.out
  have dx6 := below_some h9.out _ _ _ Fx6.out
  have dx7 := below_some h9.out _ _ _ Fx7.out
  have dx8 := below_some h9.out _ _ _ Fx8.out
  (try go_simp); (repeat (first | ((with_reducible refine wp_region_app ?_); simp only [List.cons_append, List.nil_append]) | go_values | go_skip | go_guarded | go_step | go_upon))
  refine (calIs_c x n okx.out _ (hL9.out.below (by have h9 := h9.out; repeat (first | (with_reducible assumption) | (with_reducible exact Below.refl _ _) | (with_reducible refine Below.drew ?_) | (with_reducible refine below_drewN' ?_ _) | (with_reducible refine below_al ?_) | ((with_reducible refine below_set ?_ ?_); rotate_left; focus (first | (simp; done) | (simp; omega)))))) (ix9.out.below (by have h9 := h9.out; repeat (first | (with_reducible assumption) | (with_reducible exact Below.refl _ _) | (with_reducible refine Below.drew ?_) | (with_reducible refine below_drewN' ?_ _) | (with_reducible refine below_al ?_) | ((with_reducible refine below_set ?_ ?_); rotate_left; focus (first | (simp; done) | (simp; omega))))))).mono ?_; rintro e w13 ⟨rfl, hb⟩
  have h9' := Lib.hid (below_step (w := w9) hb (by have h9 := h9.out; repeat (first | (with_reducible assumption) | (with_reducible exact Below.refl _ _) | (with_reducible refine Below.drew ?_) | (with_reducible refine below_drewN' ?_ _) | (with_reducible refine below_al ?_) | ((with_reducible refine below_set ?_ ?_); rotate_left; focus (first | (simp; done) | (simp; omega)))))); clear h9; have h9 := h9'; clear h9' hb
  clear dx0 dx1 dx2 dx3 dx4 dx5 dx6 dx7 dx8
  have dy0 := below_some h9.out _ _ _ Fy0.out
  have dy1 := below_some h9.out _ _ _ Fy1.out
  have dy2 := below_some h9.out _ _ _ Fy2.out
  have dy3 := below_some h9.out _ _ _ Fy3.out
  have dy4 := below_some h9.out _ _ _ Fy4.out
  have dy5 := below_some h9.out _ _ _ Fy5.out
  have dy6 := below_some h9.out _ _ _ Fy6.out
  have dy7 := below_some h9.out _ _ _ Fy7.out
  have dy8 := below_some h9.out _ _ _ Fy8.out
  (try go_simp); (repeat (first | ((with_reducible refine wp_region_app ?_); simp only [List.cons_append, List.nil_append]) | go_values | go_skip | go_guarded | go_step | go_upon))
  refine (calIs_c y n oky.out _ (hL9.out.below (by have h9 := h9.out; repeat (first | (with_reducible assumption) | (with_reducible exact Below.refl _ _) | (with_reducible refine Below.drew ?_) | (with_reducible refine below_drewN' ?_ _) | (with_reducible refine below_al ?_) | ((with_reducible refine below_set ?_ ?_); rotate_left; focus (first | (simp; done) | (simp; omega)))))) (iy9.out.below (by have h9 := h9.out; repeat (first | (with_reducible assumption) | (with_reducible exact Below.refl _ _) | (with_reducible refine Below.drew ?_) | (with_reducible refine below_drewN' ?_ _) | (with_reducible refine below_al ?_) | ((with_reducible refine below_set ?_ ?_); rotate_left; focus (first | (simp; done) | (simp; omega))))))).mono ?_; rintro e w14 ⟨rfl, hb⟩
  have h9' := Lib.hid (below_step (w := w9) hb (by have h9 := h9.out; repeat (first | (with_reducible assumption) | (with_reducible exact Below.refl _ _) | (with_reducible refine Below.drew ?_) | (with_reducible refine below_drewN' ?_ _) | (with_reducible refine below_al ?_) | ((with_reducible refine below_set ?_ ?_); rotate_left; focus (first | (simp; done) | (simp; omega)))))); clear h9; have h9 := h9'; clear h9' hb
  clear dy0 dy1 dy2 dy3 dy4 dy5 dy6 dy7 dy8
  (try go_simp); (repeat (first | ((with_reducible refine wp_region_app ?_); simp only [List.cons_append, List.nil_append]) | go_values | go_skip | go_guarded | go_step | go_upon))
  go_ret
  exact ⟨rfl, hB9.trans (h9.out.mono hB9.size)⟩
theorem calBoth_walk (a b : CalP) (n : Int) (w : World) (hL : Laid w) (hN : AllOff w) (ia : CalIn w a) (ib : CalIn w b) : Calls Tryd.prog 11 #[.agg #[.bool a.o0, .bool a.o1, .bool a.o2, .bool a.o3, .bool a.o4, .bool a.o5, .bool a.o6, .slice a.A a.rs.length a.cR, .slice a.D a.ds.length a.cD], .agg #[.bool b.o0, .bool b.o1, .bool b.o2, .bool b.o3, .bool b.o4, .bool b.o5, .bool b.o6, .slice b.A b.rs.length b.cR, .slice b.D b.ds.length b.cD], .int .i64 n] w fun e w' => e = .returned (.bool true) ∧ Below w.heap.size w w' := by
  cases fa : a.few
  · exact calBoth_fa a b n fa w hL hN ia ib
  cases fb : b.few
  · exact calBoth_fb a b n fa fb w hL hN ia ib
  cases ma : a.may
  · exact calBoth_ma a b n fa fb ma w hL hN ia ib
  cases mb : b.may
  · exact calBoth_mb a b n fa fb ma mb w hL hN ia ib
  cases hu : uopen a b
  · exact calBoth_no a b n fa fb ma mb hu _ rfl w hL hN ia ib
  cases ha : a.is n
  · exact calBoth_fv a b n fa fb ma mb hu _ ha rfl w hL hN ia ib
  · cases hb : b.is n
    · exact calBoth_tf a b n fa fb ma mb hu false ha hb w hL hN ia ib
    · exact calBoth_tt a b n fa fb ma mb hu true ha hb w hL hN ia ib
end Go.Proofs.YtlilffoflkkbdaaDoor
