/- The walk of CalWhole: the law returns true for every input. Conditions: the tables of months' lengths and of the week all of whose days are off lie as the program's text lays them. -/
import Derived.Test.YtlilffoflkkbdaaDoorCal0
import Derived.Test.YtlilffoflkkbdaaDoorCalW
import Derived.Test.YtlilffoflkkbdaaDoorLawCWeeks
namespace Go.Proofs.YtlilffoflkkbdaaDoor
open Go.RowKit
set_option linter.unusedVariables false
theorem manyA_c (o0 o1 o2 o3 o4 o5 o6 : Bool) (a b x : Int) (hR : Hid (many (wkA o0 o1 o2 o3 o4 o5 o6) a b = (x, 0))) (w : World) (hL : Laid w) : Calls Tryd.prog 39 #[.agg #[.bool o0, .bool o1, .bool o2, .bool o3, .bool o4, .bool o5, .bool o6, .slice none 0 0, .slice none 0 0], .int .i64 a, .int .i64 b] w fun e w' => e = .returned (.tuple #[.int .i64 x, .int .i64 0]) ∧ Below w.heap.size w w' :=
  cmany_c (wkA o0 o1 o2 o3 o4 o5 o6) a b (wkA_ok _ _ _ _ _ _ _) x 0 hR w hL (wkA_in _ _ _ _ _ _ _ _)
theorem manyB_c (o0 o1 o2 o3 o4 o5 o6 : Bool) (D : Option Addr) (cD : Nat) (m a b x : Int) (hR : Hid (many (wkB o0 o1 o2 o3 o4 o5 o6 D cD m) a b = (x, 0))) (w : World) (hL : Laid w) (hD : DIn w D [m]) : Calls Tryd.prog 39 #[.agg #[.bool o0, .bool o1, .bool o2, .bool o3, .bool o4, .bool o5, .bool o6, .slice none 0 0, .slice D 1 cD], .int .i64 a, .int .i64 b] w fun e w' => e = .returned (.tuple #[.int .i64 x, .int .i64 0]) ∧ Below w.heap.size w w' :=
  cmany_c (wkB o0 o1 o2 o3 o4 o5 o6 D cD m) a b (wkB_ok _ _ _ _ _ _ _ _ _ _) x 0 hR w hL ⟨Or.inl rfl, hD⟩
theorem many_in {c : CalP} {a b : Int} (a1 : 1 ≤ a) (ab : a ≤ b) (b2 : b ≤ 3652059) (h : b - a ≤ 4000) : many c a b = (cnt c a (b - a).toNat, 0) := by
  unfold many
  rw [dayB_in a1 (by omega), dayB_in (by omega) b2, if_pos (by rfl), if_neg (by omega), if_neg (by omega)]
set_option maxRecDepth 100000 in
set_option maxHeartbeats 8000000 in
theorem calWhole_dn (o0 o1 o2 o3 o4 o5 o6 : Bool) (n wk i : Int) (k : Nat) (z1 : IntKind.i64.wrap wk = wk) (hk : wk.tmod 15 = (k : Int)) (kb : k ≤ 14) (s1 : IntKind.i64.wrap (7 * (k : Int)) = 7 * k) (m : Int) (s2 : IntKind.i64.wrap (n + 7 * (k : Int)) = m)  (dn : dayB n = false) (w : World) (hL : Laid w) (hN : AllOff w) : Calls Tryd.prog 16 #[.agg #[.bool o0, .bool o1, .bool o2, .bool o3, .bool o4, .bool o5, .bool o6, .int .i64 n, .int .u8 wk, .int .u8 i]] w fun e w' => e = .returned (.bool true) ∧ Below w.heap.size w w' := by
  have hB : Below w.heap.size w w := Below.refl _ _
  go_enter Tryd.func16, Tryd.ntmps16
  (try go_simp); (repeat (first | ((with_reducible refine wp_region_app ?_); simp only [List.cons_append, List.nil_append]) | go_values | go_skip | go_guarded | go_step | go_upon))
  refine (shown13_c _ (hL.below (by repeat (first | assumption | exact Below.refl _ _ | (with_reducible refine Below.drew ?_) | (with_reducible refine below_drewN' ?_ _) | (with_reducible refine below_al ?_) | ((with_reducible refine below_set ?_ ?_); rotate_left; focus (first | (simp; done) | (simp; omega)))))) (hN.below (by repeat (first | assumption | exact Below.refl _ _ | (with_reducible refine Below.drew ?_) | (with_reducible refine below_drewN' ?_ _) | (with_reducible refine below_al ?_) | ((with_reducible refine below_set ?_ ?_); rotate_left; focus (first | (simp; done) | (simp; omega))))))).mono ?_; rintro e w1 ⟨rfl, hb1⟩
  have hz1 := hb1.size; (try simp at hz1); obtain ⟨hc1, hf1⟩ := bcell hb1; have hB1 := below_step (w := w) hb1 (by repeat (first | assumption | exact Below.refl _ _ | (with_reducible refine Below.drew ?_) | (with_reducible refine below_drewN' ?_ _) | (with_reducible refine below_al ?_) | ((with_reducible refine below_set ?_ ?_); rotate_left; focus (first | (simp; done) | (simp; omega)))))
  have le_w_w1 : w.heap.size ≤ w1.heap.size := by omega
  try have lt_w_w1 : w.heap.size < w1.heap.size := by omega
  have le1_w_w1 : w.heap.size + 1 ≤ w1.heap.size := by omega
  try have lt1_w_w1 : w.heap.size + 1 < w1.heap.size := by omega
  (try go_simp); (repeat (first | ((with_reducible refine wp_region_app ?_); simp only [List.cons_append, List.nil_append]) | go_values | go_skip | go_guarded | go_step | go_upon))
  refine (rday_c n _).mono ?_; rintro e w' ⟨rfl, rfl⟩
  (try go_simp); (repeat (first | ((with_reducible refine wp_region_app ?_); simp only [List.cons_append, List.nil_append]) | go_values | go_skip | go_guarded | go_step | go_upon))
  go_ret
  exact ⟨rfl, by repeat (first | assumption | exact Below.refl _ _ | (with_reducible refine Below.drew ?_) | (with_reducible refine below_drewN' ?_ _) | (with_reducible refine below_al ?_) | ((with_reducible refine below_set ?_ ?_); rotate_left; focus (first | (simp; done) | (simp; omega))))⟩
set_option maxRecDepth 100000 in
set_option maxHeartbeats 8000000 in
theorem calWhole_may (o0 o1 o2 o3 o4 o5 o6 : Bool) (n wk i : Int) (k : Nat) (z1 : IntKind.i64.wrap wk = wk) (hk : wk.tmod 15 = (k : Int)) (kb : k ≤ 14) (s1 : IntKind.i64.wrap (7 * (k : Int)) = 7 * k) (m : Int) (s2 : IntKind.i64.wrap (n + 7 * (k : Int)) = m)  (dn : dayB n = true) (hm : (wkA o0 o1 o2 o3 o4 o5 o6).may = false) (w : World) (hL : Laid w) (hN : AllOff w) : Calls Tryd.prog 16 #[.agg #[.bool o0, .bool o1, .bool o2, .bool o3, .bool o4, .bool o5, .bool o6, .int .i64 n, .int .u8 wk, .int .u8 i]] w fun e w' => e = .returned (.bool true) ∧ Below w.heap.size w w' := by
  have hB : Below w.heap.size w w := Below.refl _ _
  go_enter Tryd.func16, Tryd.ntmps16
  (try go_simp); (repeat (first | ((with_reducible refine wp_region_app ?_); simp only [List.cons_append, List.nil_append]) | go_values | go_skip | go_guarded | go_step | go_upon))
  refine (shown13_c _ (hL.below (by repeat (first | assumption | exact Below.refl _ _ | (with_reducible refine Below.drew ?_) | (with_reducible refine below_drewN' ?_ _) | (with_reducible refine below_al ?_) | ((with_reducible refine below_set ?_ ?_); rotate_left; focus (first | (simp; done) | (simp; omega)))))) (hN.below (by repeat (first | assumption | exact Below.refl _ _ | (with_reducible refine Below.drew ?_) | (with_reducible refine below_drewN' ?_ _) | (with_reducible refine below_al ?_) | ((with_reducible refine below_set ?_ ?_); rotate_left; focus (first | (simp; done) | (simp; omega))))))).mono ?_; rintro e w1 ⟨rfl, hb1⟩
  have hz1 := hb1.size; (try simp at hz1); obtain ⟨hc1, hf1⟩ := bcell hb1; have hB1 := below_step (w := w) hb1 (by repeat (first | assumption | exact Below.refl _ _ | (with_reducible refine Below.drew ?_) | (with_reducible refine below_drewN' ?_ _) | (with_reducible refine below_al ?_) | ((with_reducible refine below_set ?_ ?_); rotate_left; focus (first | (simp; done) | (simp; omega)))))
  have le_w_w1 : w.heap.size ≤ w1.heap.size := by omega
  try have lt_w_w1 : w.heap.size < w1.heap.size := by omega
  have le1_w_w1 : w.heap.size + 1 ≤ w1.heap.size := by omega
  try have lt1_w_w1 : w.heap.size + 1 < w1.heap.size := by omega
  (try go_simp); (repeat (first | ((with_reducible refine wp_region_app ?_); simp only [List.cons_append, List.nil_append]) | go_values | go_skip | go_guarded | go_step | go_upon))
  refine (rday_c n _).mono ?_; rintro e w' ⟨rfl, rfl⟩
  (try go_simp); (repeat (first | ((with_reducible refine wp_region_app ?_); simp only [List.cons_append, List.nil_append]) | go_values | go_skip | go_guarded | go_step | go_upon))
  refine (rcalMay_c (wkA o0 o1 o2 o3 o4 o5 o6) _ (wkA_in _ _ _ _ _ _ _ _)).mono ?_; rintro e w2 ⟨rfl, hb2⟩
  have hz2 := hb2.size; (try simp at hz2); obtain ⟨hc2, hf2⟩ := bcell hb2; have hB2 := below_step (w := w) hb2 (by repeat (first | assumption | exact Below.refl _ _ | (with_reducible refine Below.drew ?_) | (with_reducible refine below_drewN' ?_ _) | (with_reducible refine below_al ?_) | ((with_reducible refine below_set ?_ ?_); rotate_left; focus (first | (simp; done) | (simp; omega)))))
  have le_w_w2 : w.heap.size ≤ w2.heap.size := by omega
  try have lt_w_w2 : w.heap.size < w2.heap.size := by omega
  have le1_w_w2 : w.heap.size + 1 ≤ w2.heap.size := by omega
  try have lt1_w_w2 : w.heap.size + 1 < w2.heap.size := by omega
  have le_w1_w2 : w1.heap.size ≤ w2.heap.size := by omega
  try have lt_w1_w2 : w1.heap.size < w2.heap.size := by omega
  (try go_simp); (repeat (first | ((with_reducible refine wp_region_app ?_); simp only [List.cons_append, List.nil_append]) | go_values | go_skip | go_guarded | go_step | go_upon))
  go_ret
  exact ⟨rfl, by repeat (first | assumption | exact Below.refl _ _ | (with_reducible refine Below.drew ?_) | (with_reducible refine below_drewN' ?_ _) | (with_reducible refine below_al ?_) | ((with_reducible refine below_set ?_ ?_); rotate_left; focus (first | (simp; done) | (simp; omega))))⟩
set_option maxRecDepth 100000 in
set_option maxHeartbeats 8000000 in
theorem calWhole_hi (o0 o1 o2 o3 o4 o5 o6 : Bool) (n wk i : Int) (k : Nat) (z1 : IntKind.i64.wrap wk = wk) (hk : wk.tmod 15 = (k : Int)) (kb : k ≤ 14) (s1 : IntKind.i64.wrap (7 * (k : Int)) = 7 * k) (m : Int) (s2 : IntKind.i64.wrap (n + 7 * (k : Int)) = m)  (dn : dayB n = true) (hm : (wkA o0 o1 o2 o3 o4 o5 o6).may = true) (g : decide (3652059 < m) = true) (w : World) (hL : Laid w) (hN : AllOff w) : Calls Tryd.prog 16 #[.agg #[.bool o0, .bool o1, .bool o2, .bool o3, .bool o4, .bool o5, .bool o6, .int .i64 n, .int .u8 wk, .int .u8 i]] w fun e w' => e = .returned (.bool true) ∧ Below w.heap.size w w' := by
  have hB : Below w.heap.size w w := Below.refl _ _
  go_enter Tryd.func16, Tryd.ntmps16
  (try go_simp); (repeat (first | ((with_reducible refine wp_region_app ?_); simp only [List.cons_append, List.nil_append]) | go_values | go_skip | go_guarded | go_step | go_upon))
  refine (shown13_c _ (hL.below (by repeat (first | assumption | exact Below.refl _ _ | (with_reducible refine Below.drew ?_) | (with_reducible refine below_drewN' ?_ _) | (with_reducible refine below_al ?_) | ((with_reducible refine below_set ?_ ?_); rotate_left; focus (first | (simp; done) | (simp; omega)))))) (hN.below (by repeat (first | assumption | exact Below.refl _ _ | (with_reducible refine Below.drew ?_) | (with_reducible refine below_drewN' ?_ _) | (with_reducible refine below_al ?_) | ((with_reducible refine below_set ?_ ?_); rotate_left; focus (first | (simp; done) | (simp; omega))))))).mono ?_; rintro e w1 ⟨rfl, hb1⟩
  have hz1 := hb1.size; (try simp at hz1); obtain ⟨hc1, hf1⟩ := bcell hb1; have hB1 := below_step (w := w) hb1 (by repeat (first | assumption | exact Below.refl _ _ | (with_reducible refine Below.drew ?_) | (with_reducible refine below_drewN' ?_ _) | (with_reducible refine below_al ?_) | ((with_reducible refine below_set ?_ ?_); rotate_left; focus (first | (simp; done) | (simp; omega)))))
  have le_w_w1 : w.heap.size ≤ w1.heap.size := by omega
  try have lt_w_w1 : w.heap.size < w1.heap.size := by omega
  have le1_w_w1 : w.heap.size + 1 ≤ w1.heap.size := by omega
  try have lt1_w_w1 : w.heap.size + 1 < w1.heap.size := by omega
  (try go_simp); (repeat (first | ((with_reducible refine wp_region_app ?_); simp only [List.cons_append, List.nil_append]) | go_values | go_skip | go_guarded | go_step | go_upon))
  refine (rday_c n _).mono ?_; rintro e w' ⟨rfl, rfl⟩
  (try go_simp); (repeat (first | ((with_reducible refine wp_region_app ?_); simp only [List.cons_append, List.nil_append]) | go_values | go_skip | go_guarded | go_step | go_upon))
  refine (rcalMay_c (wkA o0 o1 o2 o3 o4 o5 o6) _ (wkA_in _ _ _ _ _ _ _ _)).mono ?_; rintro e w2 ⟨rfl, hb2⟩
  have hz2 := hb2.size; (try simp at hz2); obtain ⟨hc2, hf2⟩ := bcell hb2; have hB2 := below_step (w := w) hb2 (by repeat (first | assumption | exact Below.refl _ _ | (with_reducible refine Below.drew ?_) | (with_reducible refine below_drewN' ?_ _) | (with_reducible refine below_al ?_) | ((with_reducible refine below_set ?_ ?_); rotate_left; focus (first | (simp; done) | (simp; omega)))))
  have le_w_w2 : w.heap.size ≤ w2.heap.size := by omega
  try have lt_w_w2 : w.heap.size < w2.heap.size := by omega
  have le1_w_w2 : w.heap.size + 1 ≤ w2.heap.size := by omega
  try have lt1_w_w2 : w.heap.size + 1 < w2.heap.size := by omega
  have le_w1_w2 : w1.heap.size ≤ w2.heap.size := by omega
  try have lt_w1_w2 : w1.heap.size < w2.heap.size := by omega
  (try go_simp); (repeat (first | ((with_reducible refine wp_region_app ?_); simp only [List.cons_append, List.nil_append]) | go_values | go_skip | go_guarded | go_step | go_upon))
  go_ret
  exact ⟨rfl, by repeat (first | assumption | exact Below.refl _ _ | (with_reducible refine Below.drew ?_) | (with_reducible refine below_drewN' ?_ _) | (with_reducible refine below_al ?_) | ((with_reducible refine below_set ?_ ?_); rotate_left; focus (first | (simp; done) | (simp; omega))))⟩
set_option maxRecDepth 100000 in
set_option maxHeartbeats 8000000 in
theorem calWhole_z (o0 o1 o2 o3 o4 o5 o6 : Bool) (n wk i : Int) (k : Nat) (z1 : IntKind.i64.wrap wk = wk) (hk : wk.tmod 15 = (k : Int)) (kb : k ≤ 14) (s1 : IntKind.i64.wrap (7 * (k : Int)) = 7 * k) (m : Int) (s2 : IntKind.i64.wrap (n + 7 * (k : Int)) = m)  (dn : dayB n = true) (hm : (wkA o0 o1 o2 o3 o4 o5 o6).may = true) (g : decide (3652059 < m) = false) (op x : Int) (hop : Hid (opens (wkA o0 o1 o2 o3 o4 o5 o6) 7 = op)) (s4 : IntKind.i64.wrap ((k : Int) * op) = x) (hM : Hid (many (wkA o0 o1 o2 o3 o4 o5 o6) n m = (x, 0))) (s3 : IntKind.i64.wrap x = x) (e1 : (x != x) = false) (k0 : ((k : Int) == 0) = true) (w : World) (hL : Laid w) (hN : AllOff w) : Calls Tryd.prog 16 #[.agg #[.bool o0, .bool o1, .bool o2, .bool o3, .bool o4, .bool o5, .bool o6, .int .i64 n, .int .u8 wk, .int .u8 i]] w fun e w' => e = .returned (.bool true) ∧ Below w.heap.size w w' := by
  have hB : Below w.heap.size w w := Below.refl _ _
  go_enter Tryd.func16, Tryd.ntmps16
  (try go_simp); (repeat (first | ((with_reducible refine wp_region_app ?_); simp only [List.cons_append, List.nil_append]) | go_values | go_skip | go_guarded | go_step | go_upon))
  refine (shown13_c _ (hL.below (by repeat (first | assumption | exact Below.refl _ _ | (with_reducible refine Below.drew ?_) | (with_reducible refine below_drewN' ?_ _) | (with_reducible refine below_al ?_) | ((with_reducible refine below_set ?_ ?_); rotate_left; focus (first | (simp; done) | (simp; omega)))))) (hN.below (by repeat (first | assumption | exact Below.refl _ _ | (with_reducible refine Below.drew ?_) | (with_reducible refine below_drewN' ?_ _) | (with_reducible refine below_al ?_) | ((with_reducible refine below_set ?_ ?_); rotate_left; focus (first | (simp; done) | (simp; omega))))))).mono ?_; rintro e w1 ⟨rfl, hb1⟩
  have hz1 := hb1.size; (try simp at hz1); obtain ⟨hc1, hf1⟩ := bcell hb1; have hB1 := below_step (w := w) hb1 (by repeat (first | assumption | exact Below.refl _ _ | (with_reducible refine Below.drew ?_) | (with_reducible refine below_drewN' ?_ _) | (with_reducible refine below_al ?_) | ((with_reducible refine below_set ?_ ?_); rotate_left; focus (first | (simp; done) | (simp; omega)))))
  have le_w_w1 : w.heap.size ≤ w1.heap.size := by omega
  try have lt_w_w1 : w.heap.size < w1.heap.size := by omega
  have le1_w_w1 : w.heap.size + 1 ≤ w1.heap.size := by omega
  try have lt1_w_w1 : w.heap.size + 1 < w1.heap.size := by omega
  (try go_simp); (repeat (first | ((with_reducible refine wp_region_app ?_); simp only [List.cons_append, List.nil_append]) | go_values | go_skip | go_guarded | go_step | go_upon))
  refine (rday_c n _).mono ?_; rintro e w' ⟨rfl, rfl⟩
  (try go_simp); (repeat (first | ((with_reducible refine wp_region_app ?_); simp only [List.cons_append, List.nil_append]) | go_values | go_skip | go_guarded | go_step | go_upon))
  refine (rcalMay_c (wkA o0 o1 o2 o3 o4 o5 o6) _ (wkA_in _ _ _ _ _ _ _ _)).mono ?_; rintro e w2 ⟨rfl, hb2⟩
  have hz2 := hb2.size; (try simp at hz2); obtain ⟨hc2, hf2⟩ := bcell hb2; have hB2 := below_step (w := w) hb2 (by repeat (first | assumption | exact Below.refl _ _ | (with_reducible refine Below.drew ?_) | (with_reducible refine below_drewN' ?_ _) | (with_reducible refine below_al ?_) | ((with_reducible refine below_set ?_ ?_); rotate_left; focus (first | (simp; done) | (simp; omega)))))
  have le_w_w2 : w.heap.size ≤ w2.heap.size := by omega
  try have lt_w_w2 : w.heap.size < w2.heap.size := by omega
  have le1_w_w2 : w.heap.size + 1 ≤ w2.heap.size := by omega
  try have lt1_w_w2 : w.heap.size + 1 < w2.heap.size := by omega
  have le_w1_w2 : w1.heap.size ≤ w2.heap.size := by omega
  try have lt_w1_w2 : w1.heap.size < w2.heap.size := by omega
  (try go_simp); (repeat (first | ((with_reducible refine wp_region_app ?_); simp only [List.cons_append, List.nil_append]) | go_values | go_skip | go_guarded | go_step | go_upon))
  have hO : ∀ j : Nat, j < 7 → w2.cell? ⟨w.heap.size + 1, j, none⟩ = some (.bool ((wkA o0 o1 o2 o3 o4 o5 o6).off j)) := fun j hj => below_some hb2 _ _ _ (cell_al (below_some hb1 _ _ _ (cell_nu (by simp) (week_at (wkA o0 o1 o2 o3 o4 o5 o6) j hj))))
  have HO := Lib.hid hO; clear hO
  go_loopw [11, 12] (fun p q wr => ∃ j : Nat, j ≤ 7 ∧ p = .int .i64 (opens (wkA o0 o1 o2 o3 o4 o5 o6) j) ∧ q = .int .i64 j ∧ wr = w2) (fun _ q _ => 7 - (intOf q).toNat)
  case atStart => exact ⟨0, by omega, rfl, rfl, rfl⟩
  case round =>
    obtain ⟨j, hj, rfl, rfl, rfl⟩ := hrel
    have hob := opens_bd (wkA o0 o1 o2 o3 o4 o5 o6) j
    by_cases hlt : j < 7
    · have hltz : (j : Int) < 7 := by omega
      have hd := decide_eq_true hltz
      have hj0 : (0 : Int) ≤ (j : Int) := by omega
      clear hc1 hf1 hc2 hf2
      have gj := HO.out j hlt
      have hnx : opens (wkA o0 o1 o2 o3 o4 o5 o6) (j + 1) = opens (wkA o0 o1 o2 o3 o4 o5 o6) j + opn01 ((wkA o0 o1 o2 o3 o4 o5 o6).off j) := rfl
      have HNX := Lib.hid hnx; clear hnx
      have hw1 : IntKind.i64.wrap (opens (wkA o0 o1 o2 o3 o4 o5 o6) j + 1) = opens (wkA o0 o1 o2 o3 o4 o5 o6) j + 1 := IntWalk.i64_in _ (by omega)
      generalize hov : (wkA o0 o1 o2 o3 o4 o5 o6).off (j : Int) = v at *
      have HOV := Lib.hid hov; clear hov
      generalize opens (wkA o0 o1 o2 o3 o4 o5 o6) j = p at *
      cases v
      · go_wp2_with fail
        go_roundw
        case rel => exact ⟨j + 1, by omega, by rw [HNX.out]; rfl, by go_num, by first | trivial | rfl⟩
        case measure => simp [intOf]; omega
      · go_wp2_with fail
        go_roundw
        case rel => exact ⟨j + 1, by omega, by rw [HNX.out]; unfold opn01; simp, by go_num, by first | trivial | rfl⟩
        case measure => simp [intOf]; omega
    · obtain rfl : j = 7 := by omega
      rw [hop.out]
      clear hob
      (try go_simp); (repeat (first | ((with_reducible refine wp_region_app ?_); simp only [List.cons_append, List.nil_append]) | go_values | go_skip | go_guarded | go_step | go_upon))
      refine (manyA_c _ _ _ _ _ _ _ n m x hM _ (hL.below (by repeat (first | assumption | exact Below.refl _ _ | (with_reducible refine Below.drew ?_) | (with_reducible refine below_drewN' ?_ _) | (with_reducible refine below_al ?_) | ((with_reducible refine below_set ?_ ?_); rotate_left; focus (first | (simp; done) | (simp; omega))))))).mono ?_; rintro e w3 ⟨rfl, hb3⟩
      have hz3 := hb3.size; (try simp at hz3); obtain ⟨hc3, hf3⟩ := bcell hb3; have hB3 := below_step (w := w) hb3 (by repeat (first | assumption | exact Below.refl _ _ | (with_reducible refine Below.drew ?_) | (with_reducible refine below_drewN' ?_ _) | (with_reducible refine below_al ?_) | ((with_reducible refine below_set ?_ ?_); rotate_left; focus (first | (simp; done) | (simp; omega)))))
      have le_w_w3 : w.heap.size ≤ w3.heap.size := by omega
      try have lt_w_w3 : w.heap.size < w3.heap.size := by omega
      have le1_w_w3 : w.heap.size + 1 ≤ w3.heap.size := by omega
      try have lt1_w_w3 : w.heap.size + 1 < w3.heap.size := by omega
      have le_w1_w3 : w1.heap.size ≤ w3.heap.size := by omega
      try have lt_w1_w3 : w1.heap.size < w3.heap.size := by omega
      have le_wr_w3 : wr.heap.size ≤ w3.heap.size := by omega
      try have lt_wr_w3 : wr.heap.size < w3.heap.size := by omega
      (try go_simp); (repeat (first | ((with_reducible refine wp_region_app ?_); simp only [List.cons_append, List.nil_append]) | go_values | go_skip | go_guarded | go_step | go_upon))
      go_ret
      exact ⟨rfl, by repeat (first | assumption | exact Below.refl _ _ | (with_reducible refine Below.drew ?_) | (with_reducible refine below_drewN' ?_ _) | (with_reducible refine below_al ?_) | ((with_reducible refine below_set ?_ ?_); rotate_left; focus (first | (simp; done) | (simp; omega))))⟩
set_option maxRecDepth 100000 in
set_option maxHeartbeats 8000000 in
theorem calWhole_pt (o0 o1 o2 o3 o4 o5 o6 : Bool) (n wk i : Int) (k : Nat) (z1 : IntKind.i64.wrap wk = wk) (hk : wk.tmod 15 = (k : Int)) (kb : k ≤ 14) (s1 : IntKind.i64.wrap (7 * (k : Int)) = 7 * k) (m : Int) (s2 : IntKind.i64.wrap (n + 7 * (k : Int)) = m)  (dn : dayB n = true) (hm : (wkA o0 o1 o2 o3 o4 o5 o6).may = true) (g : decide (3652059 < m) = false) (op x : Int) (hop : Hid (opens (wkA o0 o1 o2 o3 o4 o5 o6) 7 = op)) (s4 : IntKind.i64.wrap ((k : Int) * op) = x) (hM : Hid (many (wkA o0 o1 o2 o3 o4 o5 o6) n m = (x, 0))) (s3 : IntKind.i64.wrap x = x) (e1 : (x != x) = false) (k0 : ((k : Int) == 0) = false) (z2 : IntKind.i64.wrap i = i) (r d : Int) (ht : i.tmod (7 * (k : Int)) = r) (s5 : IntKind.i64.wrap (n + r) = d) (hMB : ∀ D cD, Hid (many (wkB o0 o1 o2 o3 o4 o5 o6 D cD d) n m = (x, 0))) (q : Nat) (hq : q < 7) (hqd : Hid (Cal.wd d = q)) (hv : (wkA o0 o1 o2 o3 o4 o5 o6).off q = true) (s6 : IntKind.i64.wrap (x - 1) = x - 1) (nz : ¬ 7 * (k : Int) = 0) (w : World) (hL : Laid w) (hN : AllOff w) : Calls Tryd.prog 16 #[.agg #[.bool o0, .bool o1, .bool o2, .bool o3, .bool o4, .bool o5, .bool o6, .int .i64 n, .int .u8 wk, .int .u8 i]] w fun e w' => e = .returned (.bool true) ∧ Below w.heap.size w w' := by
  have hB : Below w.heap.size w w := Below.refl _ _
  go_enter Tryd.func16, Tryd.ntmps16
  (try go_simp); (repeat (first | ((with_reducible refine wp_region_app ?_); simp only [List.cons_append, List.nil_append]) | go_values | go_skip | go_guarded | go_step | go_upon))
  refine (shown13_c _ (hL.below (by repeat (first | assumption | exact Below.refl _ _ | (with_reducible refine Below.drew ?_) | (with_reducible refine below_drewN' ?_ _) | (with_reducible refine below_al ?_) | ((with_reducible refine below_set ?_ ?_); rotate_left; focus (first | (simp; done) | (simp; omega)))))) (hN.below (by repeat (first | assumption | exact Below.refl _ _ | (with_reducible refine Below.drew ?_) | (with_reducible refine below_drewN' ?_ _) | (with_reducible refine below_al ?_) | ((with_reducible refine below_set ?_ ?_); rotate_left; focus (first | (simp; done) | (simp; omega))))))).mono ?_; rintro e w1 ⟨rfl, hb1⟩
  have hz1 := hb1.size; (try simp at hz1); obtain ⟨hc1, hf1⟩ := bcell hb1; have hB1 := below_step (w := w) hb1 (by repeat (first | assumption | exact Below.refl _ _ | (with_reducible refine Below.drew ?_) | (with_reducible refine below_drewN' ?_ _) | (with_reducible refine below_al ?_) | ((with_reducible refine below_set ?_ ?_); rotate_left; focus (first | (simp; done) | (simp; omega)))))
  have le_w_w1 : w.heap.size ≤ w1.heap.size := by omega
  try have lt_w_w1 : w.heap.size < w1.heap.size := by omega
  have le1_w_w1 : w.heap.size + 1 ≤ w1.heap.size := by omega
  try have lt1_w_w1 : w.heap.size + 1 < w1.heap.size := by omega
  (try go_simp); (repeat (first | ((with_reducible refine wp_region_app ?_); simp only [List.cons_append, List.nil_append]) | go_values | go_skip | go_guarded | go_step | go_upon))
  refine (rday_c n _).mono ?_; rintro e w' ⟨rfl, rfl⟩
  (try go_simp); (repeat (first | ((with_reducible refine wp_region_app ?_); simp only [List.cons_append, List.nil_append]) | go_values | go_skip | go_guarded | go_step | go_upon))
  refine (rcalMay_c (wkA o0 o1 o2 o3 o4 o5 o6) _ (wkA_in _ _ _ _ _ _ _ _)).mono ?_; rintro e w2 ⟨rfl, hb2⟩
  have hz2 := hb2.size; (try simp at hz2); obtain ⟨hc2, hf2⟩ := bcell hb2; have hB2 := below_step (w := w) hb2 (by repeat (first | assumption | exact Below.refl _ _ | (with_reducible refine Below.drew ?_) | (with_reducible refine below_drewN' ?_ _) | (with_reducible refine below_al ?_) | ((with_reducible refine below_set ?_ ?_); rotate_left; focus (first | (simp; done) | (simp; omega)))))
  have le_w_w2 : w.heap.size ≤ w2.heap.size := by omega
  try have lt_w_w2 : w.heap.size < w2.heap.size := by omega
  have le1_w_w2 : w.heap.size + 1 ≤ w2.heap.size := by omega
  try have lt1_w_w2 : w.heap.size + 1 < w2.heap.size := by omega
  have le_w1_w2 : w1.heap.size ≤ w2.heap.size := by omega
  try have lt_w1_w2 : w1.heap.size < w2.heap.size := by omega
  (try go_simp); (repeat (first | ((with_reducible refine wp_region_app ?_); simp only [List.cons_append, List.nil_append]) | go_values | go_skip | go_guarded | go_step | go_upon))
  have hO : ∀ j : Nat, j < 7 → w2.cell? ⟨w.heap.size + 1, j, none⟩ = some (.bool ((wkA o0 o1 o2 o3 o4 o5 o6).off j)) := fun j hj => below_some hb2 _ _ _ (cell_al (below_some hb1 _ _ _ (cell_nu (by simp) (week_at (wkA o0 o1 o2 o3 o4 o5 o6) j hj))))
  have HO := Lib.hid hO; clear hO
  go_loopw [11, 12] (fun p q wr => ∃ j : Nat, j ≤ 7 ∧ p = .int .i64 (opens (wkA o0 o1 o2 o3 o4 o5 o6) j) ∧ q = .int .i64 j ∧ wr = w2) (fun _ q _ => 7 - (intOf q).toNat)
  case atStart => exact ⟨0, by omega, rfl, rfl, rfl⟩
  case round =>
    obtain ⟨j, hj, rfl, rfl, rfl⟩ := hrel
    have hob := opens_bd (wkA o0 o1 o2 o3 o4 o5 o6) j
    by_cases hlt : j < 7
    · have hltz : (j : Int) < 7 := by omega
      have hd := decide_eq_true hltz
      have hj0 : (0 : Int) ≤ (j : Int) := by omega
      clear hc1 hf1 hc2 hf2
      have gj := HO.out j hlt
      have hnx : opens (wkA o0 o1 o2 o3 o4 o5 o6) (j + 1) = opens (wkA o0 o1 o2 o3 o4 o5 o6) j + opn01 ((wkA o0 o1 o2 o3 o4 o5 o6).off j) := rfl
      have HNX := Lib.hid hnx; clear hnx
      have hw1 : IntKind.i64.wrap (opens (wkA o0 o1 o2 o3 o4 o5 o6) j + 1) = opens (wkA o0 o1 o2 o3 o4 o5 o6) j + 1 := IntWalk.i64_in _ (by omega)
      generalize hov : (wkA o0 o1 o2 o3 o4 o5 o6).off (j : Int) = v at *
      have HOV := Lib.hid hov; clear hov
      generalize opens (wkA o0 o1 o2 o3 o4 o5 o6) j = p at *
      cases v
      · go_wp2_with fail
        go_roundw
        case rel => exact ⟨j + 1, by omega, by rw [HNX.out]; rfl, by go_num, by first | trivial | rfl⟩
        case measure => simp [intOf]; omega
      · go_wp2_with fail
        go_roundw
        case rel => exact ⟨j + 1, by omega, by rw [HNX.out]; unfold opn01; simp, by go_num, by first | trivial | rfl⟩
        case measure => simp [intOf]; omega
    · obtain rfl : j = 7 := by omega
      rw [hop.out]
      clear hob
      (try go_simp); (repeat (first | ((with_reducible refine wp_region_app ?_); simp only [List.cons_append, List.nil_append]) | go_values | go_skip | go_guarded | go_step | go_upon))
      refine (manyA_c _ _ _ _ _ _ _ n m x hM _ (hL.below (by repeat (first | assumption | exact Below.refl _ _ | (with_reducible refine Below.drew ?_) | (with_reducible refine below_drewN' ?_ _) | (with_reducible refine below_al ?_) | ((with_reducible refine below_set ?_ ?_); rotate_left; focus (first | (simp; done) | (simp; omega))))))).mono ?_; rintro e w3 ⟨rfl, hb3⟩
      have hz3 := hb3.size; (try simp at hz3); obtain ⟨hc3, hf3⟩ := bcell hb3; have hB3 := below_step (w := w) hb3 (by repeat (first | assumption | exact Below.refl _ _ | (with_reducible refine Below.drew ?_) | (with_reducible refine below_drewN' ?_ _) | (with_reducible refine below_al ?_) | ((with_reducible refine below_set ?_ ?_); rotate_left; focus (first | (simp; done) | (simp; omega)))))
      have le_w_w3 : w.heap.size ≤ w3.heap.size := by omega
      try have lt_w_w3 : w.heap.size < w3.heap.size := by omega
      have le1_w_w3 : w.heap.size + 1 ≤ w3.heap.size := by omega
      try have lt1_w_w3 : w.heap.size + 1 < w3.heap.size := by omega
      have le_w1_w3 : w1.heap.size ≤ w3.heap.size := by omega
      try have lt_w1_w3 : w1.heap.size < w3.heap.size := by omega
      have le_wr_w3 : wr.heap.size ≤ w3.heap.size := by omega
      try have lt_wr_w3 : wr.heap.size < w3.heap.size := by omega
      have HOq := below_some hb3 _ _ _ (HO.out q hq)
      rw [hv] at HOq
      have hq0 : (0 : Int) ≤ (q : Int) := by omega
      have hq7 : (q : Int) < 7 := by omega
      have fc0 := below_some hb3 _ _ _ (show wr.cell? ⟨w1.heap.size, 0, none⟩ = some (.bool o0) from below_some hb2 _ _ _ (cell_nu rfl rfl))
      have fc1 := below_some hb3 _ _ _ (show wr.cell? ⟨w1.heap.size, 1, none⟩ = some (.bool o1) from below_some hb2 _ _ _ (cell_nu rfl rfl))
      have fc2 := below_some hb3 _ _ _ (show wr.cell? ⟨w1.heap.size, 2, none⟩ = some (.bool o2) from below_some hb2 _ _ _ (cell_nu rfl rfl))
      have fc3 := below_some hb3 _ _ _ (show wr.cell? ⟨w1.heap.size, 3, none⟩ = some (.bool o3) from below_some hb2 _ _ _ (cell_nu rfl rfl))
      have fc4 := below_some hb3 _ _ _ (show wr.cell? ⟨w1.heap.size, 4, none⟩ = some (.bool o4) from below_some hb2 _ _ _ (cell_nu rfl rfl))
      have fc5 := below_some hb3 _ _ _ (show wr.cell? ⟨w1.heap.size, 5, none⟩ = some (.bool o5) from below_some hb2 _ _ _ (cell_nu rfl rfl))
      have fc6 := below_some hb3 _ _ _ (show wr.cell? ⟨w1.heap.size, 6, none⟩ = some (.bool o6) from below_some hb2 _ _ _ (cell_nu rfl rfl))
      have fc7 := below_some hb3 _ _ _ (show wr.cell? ⟨w1.heap.size, 7, none⟩ = some (.slice none 0 0) from below_some hb2 _ _ _ (cell_nu rfl rfl))
      have fc8 := below_some hb3 _ _ _ (show wr.cell? ⟨w1.heap.size, 8, none⟩ = some (.slice none 0 0) from below_some hb2 _ _ _ (cell_nu rfl rfl))
      have ff8 : w3.frozen? ⟨w1.heap.size, 8, none⟩ = false := (hb3.frozen (p := ⟨w1.heap.size, 8, none⟩) (by omega)).trans ((hb2.frozen (p := ⟨w1.heap.size, 8, none⟩) (by simp)).trans (blk_free (blk_nu rfl)))
      clear hc1 hf1 hc2 hf2 hc3 hf3
      (try go_simp); (repeat (first | ((with_reducible refine wp_region_app ?_); simp only [List.cons_append, List.nil_append]) | go_values | go_skip | go_guarded | go_step | go_upon))
      generalize hW4 : ((w3.setCell _ _).alloc _) = w4
      have hB4 : Below w.heap.size w w4 := by rw [← hW4]; exact below_al (below_set hB3 (by omega))
      have ho4 : w4.cell? ⟨w.heap.size + 1, q, none⟩ = some (.bool true) := by rw [← hW4]; exact cell_al ((World.cell?_setCell_other w3 _ _ _ (fun e => by injection e; omega)).trans HOq)
      have hd4 : DIn w4 (some ⟨w3.heap.size, 0, none⟩) [d] := by rw [← hW4]; have h := din_one (w3.setCell ⟨w1.heap.size, 8, none⟩ (.slice (some ⟨w3.heap.size, 0, none⟩) 1 1)) d; rwa [World.size_setCell] at h
      clear hW4 HOq fc0 fc1 fc2 fc3 fc4 fc5 fc6 fc7 fc8 ff8 hb1 hb2 hb3 hz1 hz2 hz3 hB1 hB2 hB3 HO
      refine (manyB_c _ _ _ _ _ _ _ _ _ d n m x (hMB _ _) _ (hL.below hB4) hd4).mono ?_; rintro e w5 ⟨rfl, hb5⟩
      have hB5 := below_step (w := w) hb5 hB4
      have ho5 := below_some hb5 _ _ _ ho4
      clear ho4 hd4 hB4 hb5
      (try go_simp); (repeat (first | ((with_reducible refine wp_region_app ?_); simp only [List.cons_append, List.nil_append]) | go_values | go_skip | go_guarded | go_step | go_upon))
      refine (rwd_c d _).mono ?_; rintro e w6 ⟨rfl, rfl⟩
      rw [hqd.out]
      (try go_simp); (repeat (first | ((with_reducible refine wp_region_app ?_); simp only [List.cons_append, List.nil_append]) | go_values | go_skip | go_guarded | go_step | go_upon))
      go_ret
      exact ⟨rfl, hB5⟩
set_option maxRecDepth 100000 in
set_option maxHeartbeats 8000000 in
theorem calWhole_pf (o0 o1 o2 o3 o4 o5 o6 : Bool) (n wk i : Int) (k : Nat) (z1 : IntKind.i64.wrap wk = wk) (hk : wk.tmod 15 = (k : Int)) (kb : k ≤ 14) (s1 : IntKind.i64.wrap (7 * (k : Int)) = 7 * k) (m : Int) (s2 : IntKind.i64.wrap (n + 7 * (k : Int)) = m)  (dn : dayB n = true) (hm : (wkA o0 o1 o2 o3 o4 o5 o6).may = true) (g : decide (3652059 < m) = false) (op x : Int) (hop : Hid (opens (wkA o0 o1 o2 o3 o4 o5 o6) 7 = op)) (s4 : IntKind.i64.wrap ((k : Int) * op) = x) (hM : Hid (many (wkA o0 o1 o2 o3 o4 o5 o6) n m = (x, 0))) (s3 : IntKind.i64.wrap x = x) (e1 : (x != x) = false) (k0 : ((k : Int) == 0) = false) (z2 : IntKind.i64.wrap i = i) (r d : Int) (ht : i.tmod (7 * (k : Int)) = r) (s5 : IntKind.i64.wrap (n + r) = d) (hMB : ∀ D cD, Hid (many (wkB o0 o1 o2 o3 o4 o5 o6 D cD d) n m = ((x - 1), 0))) (q : Nat) (hq : q < 7) (hqd : Hid (Cal.wd d = q)) (hv : (wkA o0 o1 o2 o3 o4 o5 o6).off q = false) (s6 : IntKind.i64.wrap (x - 1) = x - 1) (nz : ¬ 7 * (k : Int) = 0) (w : World) (hL : Laid w) (hN : AllOff w) : Calls Tryd.prog 16 #[.agg #[.bool o0, .bool o1, .bool o2, .bool o3, .bool o4, .bool o5, .bool o6, .int .i64 n, .int .u8 wk, .int .u8 i]] w fun e w' => e = .returned (.bool true) ∧ Below w.heap.size w w' := by
  have hB : Below w.heap.size w w := Below.refl _ _
  go_enter Tryd.func16, Tryd.ntmps16
  (try go_simp); (repeat (first | ((with_reducible refine wp_region_app ?_); simp only [List.cons_append, List.nil_append]) | go_values | go_skip | go_guarded | go_step | go_upon))
  refine (shown13_c _ (hL.below (by repeat (first | assumption | exact Below.refl _ _ | (with_reducible refine Below.drew ?_) | (with_reducible refine below_drewN' ?_ _) | (with_reducible refine below_al ?_) | ((with_reducible refine below_set ?_ ?_); rotate_left; focus (first | (simp; done) | (simp; omega)))))) (hN.below (by repeat (first | assumption | exact Below.refl _ _ | (with_reducible refine Below.drew ?_) | (with_reducible refine below_drewN' ?_ _) | (with_reducible refine below_al ?_) | ((with_reducible refine below_set ?_ ?_); rotate_left; focus (first | (simp; done) | (simp; omega))))))).mono ?_; rintro e w1 ⟨rfl, hb1⟩
  have hz1 := hb1.size; (try simp at hz1); obtain ⟨hc1, hf1⟩ := bcell hb1; have hB1 := below_step (w := w) hb1 (by repeat (first | assumption | exact Below.refl _ _ | (with_reducible refine Below.drew ?_) | (with_reducible refine below_drewN' ?_ _) | (with_reducible refine below_al ?_) | ((with_reducible refine below_set ?_ ?_); rotate_left; focus (first | (simp; done) | (simp; omega)))))
  have le_w_w1 : w.heap.size ≤ w1.heap.size := by omega
  try have lt_w_w1 : w.heap.size < w1.heap.size := by omega
  have le1_w_w1 : w.heap.size + 1 ≤ w1.heap.size := by omega
  try have lt1_w_w1 : w.heap.size + 1 < w1.heap.size := by omega
  (try go_simp); (repeat (first | ((with_reducible refine wp_region_app ?_); simp only [List.cons_append, List.nil_append]) | go_values | go_skip | go_guarded | go_step | go_upon))
  refine (rday_c n _).mono ?_; rintro e w' ⟨rfl, rfl⟩
  (try go_simp); (repeat (first | ((with_reducible refine wp_region_app ?_); simp only [List.cons_append, List.nil_append]) | go_values | go_skip | go_guarded | go_step | go_upon))
  refine (rcalMay_c (wkA o0 o1 o2 o3 o4 o5 o6) _ (wkA_in _ _ _ _ _ _ _ _)).mono ?_; rintro e w2 ⟨rfl, hb2⟩
  have hz2 := hb2.size; (try simp at hz2); obtain ⟨hc2, hf2⟩ := bcell hb2; have hB2 := below_step (w := w) hb2 (by repeat (first | assumption | exact Below.refl _ _ | (with_reducible refine Below.drew ?_) | (with_reducible refine below_drewN' ?_ _) | (with_reducible refine below_al ?_) | ((with_reducible refine below_set ?_ ?_); rotate_left; focus (first | (simp; done) | (simp; omega)))))
  have le_w_w2 : w.heap.size ≤ w2.heap.size := by omega
  try have lt_w_w2 : w.heap.size < w2.heap.size := by omega
  have le1_w_w2 : w.heap.size + 1 ≤ w2.heap.size := by omega
  try have lt1_w_w2 : w.heap.size + 1 < w2.heap.size := by omega
  have le_w1_w2 : w1.heap.size ≤ w2.heap.size := by omega
  try have lt_w1_w2 : w1.heap.size < w2.heap.size := by omega
  (try go_simp); (repeat (first | ((with_reducible refine wp_region_app ?_); simp only [List.cons_append, List.nil_append]) | go_values | go_skip | go_guarded | go_step | go_upon))
  have hO : ∀ j : Nat, j < 7 → w2.cell? ⟨w.heap.size + 1, j, none⟩ = some (.bool ((wkA o0 o1 o2 o3 o4 o5 o6).off j)) := fun j hj => below_some hb2 _ _ _ (cell_al (below_some hb1 _ _ _ (cell_nu (by simp) (week_at (wkA o0 o1 o2 o3 o4 o5 o6) j hj))))
  have HO := Lib.hid hO; clear hO
  go_loopw [11, 12] (fun p q wr => ∃ j : Nat, j ≤ 7 ∧ p = .int .i64 (opens (wkA o0 o1 o2 o3 o4 o5 o6) j) ∧ q = .int .i64 j ∧ wr = w2) (fun _ q _ => 7 - (intOf q).toNat)
  case atStart => exact ⟨0, by omega, rfl, rfl, rfl⟩
  case round =>
    obtain ⟨j, hj, rfl, rfl, rfl⟩ := hrel
    have hob := opens_bd (wkA o0 o1 o2 o3 o4 o5 o6) j
    by_cases hlt : j < 7
    · have hltz : (j : Int) < 7 := by omega
      have hd := decide_eq_true hltz
      have hj0 : (0 : Int) ≤ (j : Int) := by omega
      clear hc1 hf1 hc2 hf2
      have gj := HO.out j hlt
      have hnx : opens (wkA o0 o1 o2 o3 o4 o5 o6) (j + 1) = opens (wkA o0 o1 o2 o3 o4 o5 o6) j + opn01 ((wkA o0 o1 o2 o3 o4 o5 o6).off j) := rfl
      have HNX := Lib.hid hnx; clear hnx
      have hw1 : IntKind.i64.wrap (opens (wkA o0 o1 o2 o3 o4 o5 o6) j + 1) = opens (wkA o0 o1 o2 o3 o4 o5 o6) j + 1 := IntWalk.i64_in _ (by omega)
      generalize hov : (wkA o0 o1 o2 o3 o4 o5 o6).off (j : Int) = v at *
      have HOV := Lib.hid hov; clear hov
      generalize opens (wkA o0 o1 o2 o3 o4 o5 o6) j = p at *
      cases v
      · go_wp2_with fail
        go_roundw
        case rel => exact ⟨j + 1, by omega, by rw [HNX.out]; rfl, by go_num, by first | trivial | rfl⟩
        case measure => simp [intOf]; omega
      · go_wp2_with fail
        go_roundw
        case rel => exact ⟨j + 1, by omega, by rw [HNX.out]; unfold opn01; simp, by go_num, by first | trivial | rfl⟩
        case measure => simp [intOf]; omega
    · obtain rfl : j = 7 := by omega
      rw [hop.out]
      clear hob
      (try go_simp); (repeat (first | ((with_reducible refine wp_region_app ?_); simp only [List.cons_append, List.nil_append]) | go_values | go_skip | go_guarded | go_step | go_upon))
      refine (manyA_c _ _ _ _ _ _ _ n m x hM _ (hL.below (by repeat (first | assumption | exact Below.refl _ _ | (with_reducible refine Below.drew ?_) | (with_reducible refine below_drewN' ?_ _) | (with_reducible refine below_al ?_) | ((with_reducible refine below_set ?_ ?_); rotate_left; focus (first | (simp; done) | (simp; omega))))))).mono ?_; rintro e w3 ⟨rfl, hb3⟩
      have hz3 := hb3.size; (try simp at hz3); obtain ⟨hc3, hf3⟩ := bcell hb3; have hB3 := below_step (w := w) hb3 (by repeat (first | assumption | exact Below.refl _ _ | (with_reducible refine Below.drew ?_) | (with_reducible refine below_drewN' ?_ _) | (with_reducible refine below_al ?_) | ((with_reducible refine below_set ?_ ?_); rotate_left; focus (first | (simp; done) | (simp; omega)))))
      have le_w_w3 : w.heap.size ≤ w3.heap.size := by omega
      try have lt_w_w3 : w.heap.size < w3.heap.size := by omega
      have le1_w_w3 : w.heap.size + 1 ≤ w3.heap.size := by omega
      try have lt1_w_w3 : w.heap.size + 1 < w3.heap.size := by omega
      have le_w1_w3 : w1.heap.size ≤ w3.heap.size := by omega
      try have lt_w1_w3 : w1.heap.size < w3.heap.size := by omega
      have le_wr_w3 : wr.heap.size ≤ w3.heap.size := by omega
      try have lt_wr_w3 : wr.heap.size < w3.heap.size := by omega
      have HOq := below_some hb3 _ _ _ (HO.out q hq)
      rw [hv] at HOq
      have hq0 : (0 : Int) ≤ (q : Int) := by omega
      have hq7 : (q : Int) < 7 := by omega
      have fc0 := below_some hb3 _ _ _ (show wr.cell? ⟨w1.heap.size, 0, none⟩ = some (.bool o0) from below_some hb2 _ _ _ (cell_nu rfl rfl))
      have fc1 := below_some hb3 _ _ _ (show wr.cell? ⟨w1.heap.size, 1, none⟩ = some (.bool o1) from below_some hb2 _ _ _ (cell_nu rfl rfl))
      have fc2 := below_some hb3 _ _ _ (show wr.cell? ⟨w1.heap.size, 2, none⟩ = some (.bool o2) from below_some hb2 _ _ _ (cell_nu rfl rfl))
      have fc3 := below_some hb3 _ _ _ (show wr.cell? ⟨w1.heap.size, 3, none⟩ = some (.bool o3) from below_some hb2 _ _ _ (cell_nu rfl rfl))
      have fc4 := below_some hb3 _ _ _ (show wr.cell? ⟨w1.heap.size, 4, none⟩ = some (.bool o4) from below_some hb2 _ _ _ (cell_nu rfl rfl))
      have fc5 := below_some hb3 _ _ _ (show wr.cell? ⟨w1.heap.size, 5, none⟩ = some (.bool o5) from below_some hb2 _ _ _ (cell_nu rfl rfl))
      have fc6 := below_some hb3 _ _ _ (show wr.cell? ⟨w1.heap.size, 6, none⟩ = some (.bool o6) from below_some hb2 _ _ _ (cell_nu rfl rfl))
      have fc7 := below_some hb3 _ _ _ (show wr.cell? ⟨w1.heap.size, 7, none⟩ = some (.slice none 0 0) from below_some hb2 _ _ _ (cell_nu rfl rfl))
      have fc8 := below_some hb3 _ _ _ (show wr.cell? ⟨w1.heap.size, 8, none⟩ = some (.slice none 0 0) from below_some hb2 _ _ _ (cell_nu rfl rfl))
      have ff8 : w3.frozen? ⟨w1.heap.size, 8, none⟩ = false := (hb3.frozen (p := ⟨w1.heap.size, 8, none⟩) (by omega)).trans ((hb2.frozen (p := ⟨w1.heap.size, 8, none⟩) (by simp)).trans (blk_free (blk_nu rfl)))
      clear hc1 hf1 hc2 hf2 hc3 hf3
      (try go_simp); (repeat (first | ((with_reducible refine wp_region_app ?_); simp only [List.cons_append, List.nil_append]) | go_values | go_skip | go_guarded | go_step | go_upon))
      generalize hW4 : ((w3.setCell _ _).alloc _) = w4
      have hB4 : Below w.heap.size w w4 := by rw [← hW4]; exact below_al (below_set hB3 (by omega))
      have ho4 : w4.cell? ⟨w.heap.size + 1, q, none⟩ = some (.bool false) := by rw [← hW4]; exact cell_al ((World.cell?_setCell_other w3 _ _ _ (fun e => by injection e; omega)).trans HOq)
      have hd4 : DIn w4 (some ⟨w3.heap.size, 0, none⟩) [d] := by rw [← hW4]; have h := din_one (w3.setCell ⟨w1.heap.size, 8, none⟩ (.slice (some ⟨w3.heap.size, 0, none⟩) 1 1)) d; rwa [World.size_setCell] at h
      clear hW4 HOq fc0 fc1 fc2 fc3 fc4 fc5 fc6 fc7 fc8 ff8 hb1 hb2 hb3 hz1 hz2 hz3 hB1 hB2 hB3 HO
      refine (manyB_c _ _ _ _ _ _ _ _ _ d n m (x - 1) (hMB _ _) _ (hL.below hB4) hd4).mono ?_; rintro e w5 ⟨rfl, hb5⟩
      have hB5 := below_step (w := w) hb5 hB4
      have ho5 := below_some hb5 _ _ _ ho4
      clear ho4 hd4 hB4 hb5
      (try go_simp); (repeat (first | ((with_reducible refine wp_region_app ?_); simp only [List.cons_append, List.nil_append]) | go_values | go_skip | go_guarded | go_step | go_upon))
      refine (rwd_c d _).mono ?_; rintro e w6 ⟨rfl, rfl⟩
      rw [hqd.out]
      (try go_simp); (repeat (first | ((with_reducible refine wp_region_app ?_); simp only [List.cons_append, List.nil_append]) | go_values | go_skip | go_guarded | go_step | go_upon))
      go_ret
      exact ⟨rfl, hB5⟩
theorem calWhole_walk (o0 o1 o2 o3 o4 o5 o6 : Bool) (n wk i : Int) (hw : 0 ≤ wk ∧ wk ≤ 255) (hi : 0 ≤ i ∧ i ≤ 255) (hn : -9223372036854775808 ≤ n ∧ n ≤ 9223372036854775807) (w : World) (hL : Laid w) (hN : AllOff w) : Calls Tryd.prog 16 #[.agg #[.bool o0, .bool o1, .bool o2, .bool o3, .bool o4, .bool o5, .bool o6, .int .i64 n, .int .u8 wk, .int .u8 i]] w fun e w' => e = .returned (.bool true) ∧ Below w.heap.size w w' := by
  obtain ⟨w1, w2⟩ := hw
  obtain ⟨i1, i2⟩ := hi
  have z1 : IntKind.i64.wrap wk = wk := IntWalk.i64_in _ (by omega)
  have z2 : IntKind.i64.wrap i = i := IntWalk.i64_in _ (by omega)
  obtain ⟨k, hk, kb⟩ : ∃ k : Nat, wk.tmod 15 = (k : Int) ∧ k ≤ 14 := ⟨(wk % 15).toNat, by rw [Int.tmod_eq_emod_of_nonneg w1]; omega, by omega⟩
  have s1 : IntKind.i64.wrap (7 * (k : Int)) = 7 * k := IntWalk.i64_in _ (by omega)
  cases dn : dayB n
  · exact calWhole_dn o0 o1 o2 o3 o4 o5 o6 n wk i k z1 hk kb s1 _ rfl dn w hL hN
  have hd : 1 ≤ n ∧ n ≤ 3652059 := of_decide_eq_true dn
  have s2 : IntKind.i64.wrap (n + 7 * (k : Int)) = n + 7 * k := IntWalk.i64_in _ (by omega)
  cases hm : (wkA o0 o1 o2 o3 o4 o5 o6).may
  · exact calWhole_may o0 o1 o2 o3 o4 o5 o6 n wk i k z1 hk kb s1 _ s2 dn hm w hL hN
  by_cases hg : 3652059 < n + 7 * (k : Int)
  · exact calWhole_hi o0 o1 o2 o3 o4 o5 o6 n wk i k z1 hk kb s1 _ s2 dn hm (decide_eq_true hg) w hL hN
  have hs := wkA_is o0 o1 o2 o3 o4 o5 o6
  have hob := opens_bd (wkA o0 o1 o2 o3 o4 o5 o6) 7
  obtain ⟨op, hop⟩ : ∃ op, opens (wkA o0 o1 o2 o3 o4 o5 o6) 7 = op := ⟨_, rfl⟩
  have hcw := cnt_weeks (wkA o0 o1 o2 o3 o4 o5 o6) hs n hd.1 k (by omega)
  rw [hop] at hob hcw
  have hM : many (wkA o0 o1 o2 o3 o4 o5 o6) n (n + 7 * (k : Int)) = ((k : Int) * op, 0) := by
    rw [many_in hd.1 (by omega) (by omega) (by omega), show (n + 7 * (k : Int) - n).toNat = 7 * k by omega, hcw]
  have hx1 : 0 ≤ (k : Int) * op := Int.mul_nonneg (by omega) hob.1
  have hx2 : (k : Int) * op ≤ 14 * 7 := Int.mul_le_mul (by omega) hob.2 hob.1 (by decide)
  have hcx : cnt (wkA o0 o1 o2 o3 o4 o5 o6) n (7 * k) = (k : Int) * op := hcw
  obtain ⟨x, hx⟩ : ∃ x, (k : Int) * op = x := ⟨_, rfl⟩
  rw [hx] at hM hx1 hx2 hcx
  have s3 : IntKind.i64.wrap x = x := IntWalk.i64_in _ (by omega)
  have s4 : IntKind.i64.wrap ((k : Int) * op) = x := by rw [hx]; exact s3
  have e1 : (x != x) = false := by simp
  by_cases k0 : k = 0
  · exact calWhole_z o0 o1 o2 o3 o4 o5 o6 n wk i k z1 hk kb s1 _ s2 dn hm (decide_eq_false hg) op x (Lib.hid hop) s4 (Lib.hid hM) s3 e1 (by subst k0; rfl) w hL hN
  have hk0 : ((k : Int) == 0) = false := beq_eq_false_iff_ne.2 (by omega)
  obtain ⟨r, ht⟩ : ∃ r, i.tmod (7 * (k : Int)) = r := ⟨_, rfl⟩
  have hr : 0 ≤ r ∧ r < 7 * (k : Int) := by
    rw [← ht, Int.tmod_eq_emod_of_nonneg i1]
    exact ⟨Int.emod_nonneg _ (by omega), Int.emod_lt_of_pos _ (by omega)⟩
  have s5 : IntKind.i64.wrap (n + r) = n + r := IntWalk.i64_in _ (by omega)
  have s6 : IntKind.i64.wrap (x - 1) = x - 1 := IntWalk.i64_in _ (by omega)
  have hwb := Cal.wd_bd (n + r)
  have hq : Hid (Cal.wd (n + r) = ((Cal.wd (n + r)).toNat : Int)) := Lib.hid (by omega)
  have hB : ∀ D cD, many (wkB o0 o1 o2 o3 o4 o5 o6 D cD (n + r)) n (n + 7 * (k : Int)) = (x - (if (wkA o0 o1 o2 o3 o4 o5 o6).is (n + r) = true then 1 else 0), 0) := by
    intro D cD
    rw [many_in hd.1 (by omega) (by omega) (by omega), show (n + 7 * (k : Int) - n).toNat = 7 * k by omega, cnt_told (wkA o0 o1 o2 o3 o4 o5 o6) _ (n + r) (wkB_is o0 o1 o2 o3 o4 o5 o6 D cD (n + r)) n (7 * k), hcx, decide_eq_true (show n ≤ n + r by omega), decide_eq_true (show n + r < n + ((7 * k : Nat) : Int) by omega)]
    rfl
  have hday : dayB (n + r) = true := dayB_in (by omega) (by omega)
  cases hv : (wkA o0 o1 o2 o3 o4 o5 o6).off ((Cal.wd (n + r)).toNat : Int)
  · have hi1 : (wkA o0 o1 o2 o3 o4 o5 o6).is (n + r) = true := by rw [hs, hday, hq.out, hv]; rfl
    exact calWhole_pf o0 o1 o2 o3 o4 o5 o6 n wk i k z1 hk kb s1 _ s2 dn hm (decide_eq_false hg) op x (Lib.hid hop) s4 (Lib.hid hM) s3 e1 hk0 z2 r _ ht s5 (fun D cD => Lib.hid (by rw [hB, hi1]; rfl)) _ (by omega) hq hv s6 (by omega) w hL hN
  · have hi1 : (wkA o0 o1 o2 o3 o4 o5 o6).is (n + r) = false := by rw [hs, hday, hq.out, hv]; rfl
    exact calWhole_pt o0 o1 o2 o3 o4 o5 o6 n wk i k z1 hk kb s1 _ s2 dn hm (decide_eq_false hg) op x (Lib.hid hop) s4 (Lib.hid hM) s3 e1 hk0 z2 r _ ht s5 (fun D cD => Lib.hid (by rw [hB, hi1]; simp)) _ (by omega) hq hv s6 (by omega) w hL hN
end Go.Proofs.YtlilffoflkkbdaaDoor
