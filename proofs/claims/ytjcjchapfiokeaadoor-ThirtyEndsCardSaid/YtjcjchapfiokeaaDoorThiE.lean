/- Months of 30 days, the document's: the three ways, as plain counts. Conditions: none. -/
import Derived.Test.YtjcjchapfiokeaaDoorThiD
import Derived.Test.YtjcjchapfiokeaaDoorRatE
import Derived.Test.YtjcjchapfiokeaaDoorMonR
namespace Go.Proofs.YtjcjchapfiokeaaDoor
open Go.RowKit
set_option linter.unusedVariables false
set_option linter.unusedSimpArgs false
theorem why_a (a b : Int) (h : dayB a = false) (x : Bool) (hx : dayB b = x) (w : World) : Calls Tryd.prog 61 #[.int .i64 a, .int .i64 b] w fun e w' => e = .returned (.int .i64 3) ∧ Below w.heap.size w w' := by
  go_enter Tryd.func61, Tryd.ntmps61
  go_wp2_with fail
  refine (rday_c _ _).mono ?_; rintro e w' ⟨rfl, rfl⟩; rw [h]
  go_wp2_with fail
  refine (rday_c _ _).mono ?_; rintro e w' ⟨rfl, rfl⟩; rw [hx]
  go_wp2_with fail
  go_ret
  exact ⟨rfl, by repeat (first | assumption | exact Below.refl _ _ | (with_reducible refine Below.drew ?_) | (with_reducible refine below_drewN' ?_ _) | (with_reducible refine below_al ?_) | ((with_reducible refine below_set ?_ ?_); rotate_left; focus (first | (simp; done) | (simp; omega))))⟩
theorem why_b (a b : Int) (h : dayB a = true) (h' : dayB b = false) (w : World) : Calls Tryd.prog 61 #[.int .i64 a, .int .i64 b] w fun e w' => e = .returned (.int .i64 3) ∧ Below w.heap.size w w' := by
  go_enter Tryd.func61, Tryd.ntmps61
  go_wp2_with fail
  refine (rday_c _ _).mono ?_; rintro e w' ⟨rfl, rfl⟩; rw [h]
  go_wp2_with fail
  refine (rday_c _ _).mono ?_; rintro e w' ⟨rfl, rfl⟩; rw [h']
  go_wp2_with fail
  go_ret
  exact ⟨rfl, by repeat (first | assumption | exact Below.refl _ _ | (with_reducible refine Below.drew ?_) | (with_reducible refine below_drewN' ?_ _) | (with_reducible refine below_al ?_) | ((with_reducible refine below_set ?_ ?_); rotate_left; focus (first | (simp; done) | (simp; omega))))⟩
theorem why_o (a b : Int) (h : dayB a = true) (h' : dayB b = true) (hab : b < a) (w : World) : Calls Tryd.prog 61 #[.int .i64 a, .int .i64 b] w fun e w' => e = .returned (.int .i64 4) ∧ Below w.heap.size w w' := by
  go_enter Tryd.func61, Tryd.ntmps61
  go_wp2_with fail
  refine (rday_c _ _).mono ?_; rintro e w' ⟨rfl, rfl⟩; rw [h]
  go_wp2_with fail
  refine (rday_c _ _).mono ?_; rintro e w' ⟨rfl, rfl⟩; rw [h']
  go_wp2_with fail
  go_ret
  exact ⟨rfl, by repeat (first | assumption | exact Below.refl _ _ | (with_reducible refine Below.drew ?_) | (with_reducible refine below_drewN' ?_ _) | (with_reducible refine below_al ?_) | ((with_reducible refine below_set ?_ ?_); rotate_left; focus (first | (simp; done) | (simp; omega))))⟩
theorem why_k (a b : Int) (h : dayB a = true) (h' : dayB b = true) (hab : ¬ b < a) (w : World) : Calls Tryd.prog 61 #[.int .i64 a, .int .i64 b] w fun e w' => e = .returned (.int .i64 0) ∧ Below w.heap.size w w' := by
  go_enter Tryd.func61, Tryd.ntmps61
  go_wp2_with fail
  refine (rday_c _ _).mono ?_; rintro e w' ⟨rfl, rfl⟩; rw [h]
  go_wp2_with fail
  refine (rday_c _ _).mono ?_; rintro e w' ⟨rfl, rfl⟩; rw [h']
  go_wp2_with fail
  go_ret
  exact ⟨rfl, by repeat (first | assumption | exact Below.refl _ _ | (with_reducible refine Below.drew ?_) | (with_reducible refine below_drewN' ?_ _) | (with_reducible refine below_al ?_) | ((with_reducible refine below_set ?_ ?_); rotate_left; focus (first | (simp; done) | (simp; omega))))⟩
theorem dfeb_truetrue (n y m d : Int) (hl : Mon.lastB n = true) (h : (m == 2) = true) (w : World) : Calls Tryd.prog 62 #[.int .i64 n, .agg #[.int .i64 y, .int .i64 m, .int .i64 d]] w fun e w' => e = .returned (.bool true) ∧ Below w.heap.size w w' := by
  have hB : Below w.heap.size w w := Below.refl _ _
  go_enter Tryd.func62, Tryd.ntmps62
  go_wp2_with fail
  refine (rlast_c _ _).mono ?_; rintro e w1 ⟨rfl, hb1⟩
  have hz1 := hb1.size; (try simp at hz1); obtain ⟨hc1, hf1⟩ := bcell hb1
  have hB_w_1 := below_step (w := w) hb1 (by repeat (first | (with_reducible assumption) | (with_reducible exact Below.refl _ _) | (with_reducible refine Below.drew ?_) | (with_reducible refine below_drewN' ?_ _) | (with_reducible refine below_al ?_) | ((with_reducible refine below_set ?_ ?_); rotate_left; focus (first | (simp; done) | (simp; omega)))))
  have le_w_w1 : w.heap.size ≤ w1.heap.size := by omega
  try have lt_w_w1 : w.heap.size < w1.heap.size := by omega
  try have lp01_w_w1 : w.heap.size < w1.heap.size + 1 := by omega
  try have lp02_w_w1 : w.heap.size < w1.heap.size + 1 + 1 := by omega
  try have lp03_w_w1 : w.heap.size < w1.heap.size + 1 + 1 + 1 := by omega
  try have lp11_w_w1 : w.heap.size + 1 < w1.heap.size + 1 := by omega
  try have lp12_w_w1 : w.heap.size + 1 < w1.heap.size + 1 + 1 := by omega
  try have lp13_w_w1 : w.heap.size + 1 < w1.heap.size + 1 + 1 + 1 := by omega
  try have lp22_w_w1 : w.heap.size + 1 + 1 < w1.heap.size + 1 + 1 := by omega
  try have lp23_w_w1 : w.heap.size + 1 + 1 < w1.heap.size + 1 + 1 + 1 := by omega
  have s1_w1 : w1.heap.size < w1.heap.size + 1 + 1 := by omega
  have s2_w1 : w1.heap.size < w1.heap.size + 1 + 1 + 1 := by omega
  rw [hl]
  go_wp2_with fail
  go_ret
  exact ⟨rfl, by repeat (first | assumption | exact Below.refl _ _ | (with_reducible refine Below.drew ?_) | (with_reducible refine below_drewN' ?_ _) | (with_reducible refine below_al ?_) | ((with_reducible refine below_set ?_ ?_); rotate_left; focus (first | (simp; done) | (simp; omega))))⟩
theorem dfeb_truefalse (n y m d : Int) (hl : Mon.lastB n = true) (h : (m == 2) = false) (w : World) : Calls Tryd.prog 62 #[.int .i64 n, .agg #[.int .i64 y, .int .i64 m, .int .i64 d]] w fun e w' => e = .returned (.bool false) ∧ Below w.heap.size w w' := by
  have hB : Below w.heap.size w w := Below.refl _ _
  go_enter Tryd.func62, Tryd.ntmps62
  go_wp2_with fail
  refine (rlast_c _ _).mono ?_; rintro e w1 ⟨rfl, hb1⟩
  have hz1 := hb1.size; (try simp at hz1); obtain ⟨hc1, hf1⟩ := bcell hb1
  have hB_w_1 := below_step (w := w) hb1 (by repeat (first | (with_reducible assumption) | (with_reducible exact Below.refl _ _) | (with_reducible refine Below.drew ?_) | (with_reducible refine below_drewN' ?_ _) | (with_reducible refine below_al ?_) | ((with_reducible refine below_set ?_ ?_); rotate_left; focus (first | (simp; done) | (simp; omega)))))
  have le_w_w1 : w.heap.size ≤ w1.heap.size := by omega
  try have lt_w_w1 : w.heap.size < w1.heap.size := by omega
  try have lp01_w_w1 : w.heap.size < w1.heap.size + 1 := by omega
  try have lp02_w_w1 : w.heap.size < w1.heap.size + 1 + 1 := by omega
  try have lp03_w_w1 : w.heap.size < w1.heap.size + 1 + 1 + 1 := by omega
  try have lp11_w_w1 : w.heap.size + 1 < w1.heap.size + 1 := by omega
  try have lp12_w_w1 : w.heap.size + 1 < w1.heap.size + 1 + 1 := by omega
  try have lp13_w_w1 : w.heap.size + 1 < w1.heap.size + 1 + 1 + 1 := by omega
  try have lp22_w_w1 : w.heap.size + 1 + 1 < w1.heap.size + 1 + 1 := by omega
  try have lp23_w_w1 : w.heap.size + 1 + 1 < w1.heap.size + 1 + 1 + 1 := by omega
  have s1_w1 : w1.heap.size < w1.heap.size + 1 + 1 := by omega
  have s2_w1 : w1.heap.size < w1.heap.size + 1 + 1 + 1 := by omega
  rw [hl]
  go_wp2_with fail
  go_ret
  exact ⟨rfl, by repeat (first | assumption | exact Below.refl _ _ | (with_reducible refine Below.drew ?_) | (with_reducible refine below_drewN' ?_ _) | (with_reducible refine below_al ?_) | ((with_reducible refine below_set ?_ ?_); rotate_left; focus (first | (simp; done) | (simp; omega))))⟩
theorem dfeb_falsex (n y m d : Int) (hl : Mon.lastB n = false)  (w : World) : Calls Tryd.prog 62 #[.int .i64 n, .agg #[.int .i64 y, .int .i64 m, .int .i64 d]] w fun e w' => e = .returned (.bool false) ∧ Below w.heap.size w w' := by
  have hB : Below w.heap.size w w := Below.refl _ _
  go_enter Tryd.func62, Tryd.ntmps62
  go_wp2_with fail
  refine (rlast_c _ _).mono ?_; rintro e w1 ⟨rfl, hb1⟩
  have hz1 := hb1.size; (try simp at hz1); obtain ⟨hc1, hf1⟩ := bcell hb1
  have hB_w_1 := below_step (w := w) hb1 (by repeat (first | (with_reducible assumption) | (with_reducible exact Below.refl _ _) | (with_reducible refine Below.drew ?_) | (with_reducible refine below_drewN' ?_ _) | (with_reducible refine below_al ?_) | ((with_reducible refine below_set ?_ ?_); rotate_left; focus (first | (simp; done) | (simp; omega)))))
  have le_w_w1 : w.heap.size ≤ w1.heap.size := by omega
  try have lt_w_w1 : w.heap.size < w1.heap.size := by omega
  try have lp01_w_w1 : w.heap.size < w1.heap.size + 1 := by omega
  try have lp02_w_w1 : w.heap.size < w1.heap.size + 1 + 1 := by omega
  try have lp03_w_w1 : w.heap.size < w1.heap.size + 1 + 1 + 1 := by omega
  try have lp11_w_w1 : w.heap.size + 1 < w1.heap.size + 1 := by omega
  try have lp12_w_w1 : w.heap.size + 1 < w1.heap.size + 1 + 1 := by omega
  try have lp13_w_w1 : w.heap.size + 1 < w1.heap.size + 1 + 1 + 1 := by omega
  try have lp22_w_w1 : w.heap.size + 1 + 1 < w1.heap.size + 1 + 1 := by omega
  try have lp23_w_w1 : w.heap.size + 1 + 1 < w1.heap.size + 1 + 1 + 1 := by omega
  have s1_w1 : w1.heap.size < w1.heap.size + 1 + 1 := by omega
  have s2_w1 : w1.heap.size < w1.heap.size + 1 + 1 + 1 := by omega
  rw [hl]
  go_wp2_with fail
  go_ret
  exact ⟨rfl, by repeat (first | assumption | exact Below.refl _ _ | (with_reducible refine Below.drew ?_) | (with_reducible refine below_drewN' ?_ _) | (with_reducible refine below_al ?_) | ((with_reducible refine below_set ?_ ?_); rotate_left; focus (first | (simp; done) | (simp; omega))))⟩
theorem dfeb_c (n y m d : Int) (l r : Bool) (hl : Mon.lastB n = l) (hr : (l && (m == 2)) = r) (w : World) : Calls Tryd.prog 62 #[.int .i64 n, .agg #[.int .i64 y, .int .i64 m, .int .i64 d]] w fun e w' => e = .returned (.bool r) ∧ Below w.heap.size w w' := by
  subst hr
  cases l
  · exact dfeb_falsex n y m d hl w
  · cases h : (m == 2)
    · exact dfeb_truefalse n y m d hl h w
    · exact dfeb_truetrue n y m d hl h w
theorem dnew_at (x : Int) (nn : Nat) (hx : x = (nn : Int)) (hnn : nn ≤ 4000000) (w : World) : Calls Tryd.prog 37 #[.int .i64 x, .int .i64 360] w fun e w' => e = .returned (.tuple #[.agg #[.int .i64 (Thi.rN nn 360), .int .i64 (Thi.rD nn 360)], .int .i64 0]) ∧ Below w.heap.size w w' := by
  subst hx; exact dnew_c nn 360 (by omega) (by omega) (by omega) w
set_option maxHeartbeats 4000000 in
theorem dpart_p (y1 m1 e1 y2 m2 e2 D1 D2 N : Int) (nn : Nat) (hy : 1 ≤ y1 ∧ y1 ≤ 9999 ∧ 1 ≤ y2 ∧ y2 ≤ 9999 ∧ 1 ≤ m1 ∧ m1 ≤ 12 ∧ 1 ≤ m2 ∧ m2 ≤ 12 ∧ 0 ≤ D1 ∧ D1 ≤ 100 ∧ 0 ≤ D2 ∧ D2 ≤ 100) (HN : Hid (360 * (y2 - y1) + 30 * (m2 - m1) + (D2 - D1) = N)) (h0 : 0 ≤ N) (HM : Hid (max 0 N = (nn : Int))) (hnn : nn ≤ 4000000) (w : World) :
    Calls Tryd.prog 63 #[.agg #[.int .i64 y1, .int .i64 m1, .int .i64 e1], .agg #[.int .i64 y2, .int .i64 m2, .int .i64 e2], .int .i64 D1, .int .i64 D2] w fun e w' => e = .returned (.tuple #[.agg #[.int .i64 (Thi.rN nn 360), .int .i64 (Thi.rD nn 360)], .int .i64 0]) ∧ Below w.heap.size w w' := by
  obtain ⟨y1a, y1b, y2a, y2b, m1a, m1b, m2a, m2b, D1a, D1b, D2a, D2b⟩ := hy
  have q1 : IntKind.i64.wrap (y2 - y1) = y2 - y1 := IntWalk.i64_in _ (by omega)
  have q2 : IntKind.i64.wrap (360 * (y2 - y1)) = 360 * (y2 - y1) := IntWalk.i64_in _ (by omega)
  have q3 : IntKind.i64.wrap (m2 - m1) = m2 - m1 := IntWalk.i64_in _ (by omega)
  have q4 : IntKind.i64.wrap (30 * (m2 - m1)) = 30 * (m2 - m1) := IntWalk.i64_in _ (by omega)
  have q5 : IntKind.i64.wrap (360 * (y2 - y1) + 30 * (m2 - m1)) = 360 * (y2 - y1) + 30 * (m2 - m1) := IntWalk.i64_in _ (by omega)
  have q6 : IntKind.i64.wrap (D2 - D1) = D2 - D1 := IntWalk.i64_in _ (by omega)
  have q7 : IntKind.i64.wrap (360 * (y2 - y1) + 30 * (m2 - m1) + (D2 - D1)) = 360 * (y2 - y1) + 30 * (m2 - m1) + (D2 - D1) := IntWalk.i64_in _ (by omega)
  have n0 : decide (360 * (y2 - y1) + 30 * (m2 - m1) + (D2 - D1) < 0) = false := by rw [HN.out]; exact decide_eq_false (by omega)
  have hB : Below w.heap.size w w := Below.refl _ _
  go_enter Tryd.func63, Tryd.ntmps63
  go_wp2_with fail
  refine (dnew_at _ nn (by have h1 := HM.out; have h2 := HN.out; omega) hnn _).mono ?_; rintro e w1 ⟨rfl, hb1⟩
  have hz1 := hb1.size; (try simp at hz1); obtain ⟨hc1, hf1⟩ := bcell hb1
  have hB_w_1 := below_step (w := w) hb1 (by repeat (first | (with_reducible assumption) | (with_reducible exact Below.refl _ _) | (with_reducible refine Below.drew ?_) | (with_reducible refine below_drewN' ?_ _) | (with_reducible refine below_al ?_) | ((with_reducible refine below_set ?_ ?_); rotate_left; focus (first | (simp; done) | (simp; omega)))))
  have le_w_w1 : w.heap.size ≤ w1.heap.size := by omega
  try have lt_w_w1 : w.heap.size < w1.heap.size := by omega
  try have lp01_w_w1 : w.heap.size < w1.heap.size + 1 := by omega
  try have lp02_w_w1 : w.heap.size < w1.heap.size + 1 + 1 := by omega
  try have lp03_w_w1 : w.heap.size < w1.heap.size + 1 + 1 + 1 := by omega
  try have lp11_w_w1 : w.heap.size + 1 < w1.heap.size + 1 := by omega
  try have lp12_w_w1 : w.heap.size + 1 < w1.heap.size + 1 + 1 := by omega
  try have lp13_w_w1 : w.heap.size + 1 < w1.heap.size + 1 + 1 + 1 := by omega
  try have lp22_w_w1 : w.heap.size + 1 + 1 < w1.heap.size + 1 + 1 := by omega
  try have lp23_w_w1 : w.heap.size + 1 + 1 < w1.heap.size + 1 + 1 + 1 := by omega
  try have le1_w_w1 : w.heap.size + 1 ≤ w1.heap.size := by omega
  try have lt1_w_w1 : w.heap.size + 1 < w1.heap.size := by omega
  try have le2_w_w1 : w.heap.size + 1 + 1 ≤ w1.heap.size := by omega
  try have lt2_w_w1 : w.heap.size + 1 + 1 < w1.heap.size := by omega
  have s1_w1 : w1.heap.size < w1.heap.size + 1 + 1 := by omega
  have s2_w1 : w1.heap.size < w1.heap.size + 1 + 1 + 1 := by omega
  have g0 := below_some hb1 _ _ _ (cell_nu (k := w.heap.size + 1 + 1) (i := 0) (by simp) rfl)
  have g1 := below_some hb1 _ _ _ (cell_nu (k := w.heap.size + 1 + 1) (i := 1) (by simp) rfl)
  go_wp2_with fail
  refine bodyPost_ret (v := .tuple #[.agg #[.int .i64 (Thi.rN nn 360), .int .i64 (Thi.rD nn 360)], .int .i64 0]) (by simp [results, Tryd.results63, go_sem, g0, g1]) rfl ⟨rfl, ?_⟩
  exact below_set (below_set hB_w_1 (by simp; try omega)) (by simp; try omega)
set_option maxHeartbeats 4000000 in
theorem dpart_n (y1 m1 e1 y2 m2 e2 D1 D2 N : Int) (nn : Nat) (hy : 1 ≤ y1 ∧ y1 ≤ 9999 ∧ 1 ≤ y2 ∧ y2 ≤ 9999 ∧ 1 ≤ m1 ∧ m1 ≤ 12 ∧ 1 ≤ m2 ∧ m2 ≤ 12 ∧ 0 ≤ D1 ∧ D1 ≤ 100 ∧ 0 ≤ D2 ∧ D2 ≤ 100) (HN : Hid (360 * (y2 - y1) + 30 * (m2 - m1) + (D2 - D1) = N)) (h0 : N < 0) (HM : Hid (max 0 N = (nn : Int))) (hnn : nn ≤ 4000000) (w : World) :
    Calls Tryd.prog 63 #[.agg #[.int .i64 y1, .int .i64 m1, .int .i64 e1], .agg #[.int .i64 y2, .int .i64 m2, .int .i64 e2], .int .i64 D1, .int .i64 D2] w fun e w' => e = .returned (.tuple #[.agg #[.int .i64 (Thi.rN nn 360), .int .i64 (Thi.rD nn 360)], .int .i64 0]) ∧ Below w.heap.size w w' := by
  obtain ⟨y1a, y1b, y2a, y2b, m1a, m1b, m2a, m2b, D1a, D1b, D2a, D2b⟩ := hy
  have q1 : IntKind.i64.wrap (y2 - y1) = y2 - y1 := IntWalk.i64_in _ (by omega)
  have q2 : IntKind.i64.wrap (360 * (y2 - y1)) = 360 * (y2 - y1) := IntWalk.i64_in _ (by omega)
  have q3 : IntKind.i64.wrap (m2 - m1) = m2 - m1 := IntWalk.i64_in _ (by omega)
  have q4 : IntKind.i64.wrap (30 * (m2 - m1)) = 30 * (m2 - m1) := IntWalk.i64_in _ (by omega)
  have q5 : IntKind.i64.wrap (360 * (y2 - y1) + 30 * (m2 - m1)) = 360 * (y2 - y1) + 30 * (m2 - m1) := IntWalk.i64_in _ (by omega)
  have q6 : IntKind.i64.wrap (D2 - D1) = D2 - D1 := IntWalk.i64_in _ (by omega)
  have q7 : IntKind.i64.wrap (360 * (y2 - y1) + 30 * (m2 - m1) + (D2 - D1)) = 360 * (y2 - y1) + 30 * (m2 - m1) + (D2 - D1) := IntWalk.i64_in _ (by omega)
  have n0 : decide (360 * (y2 - y1) + 30 * (m2 - m1) + (D2 - D1) < 0) = true := by rw [HN.out]; exact decide_eq_true h0
  have hB : Below w.heap.size w w := Below.refl _ _
  go_enter Tryd.func63, Tryd.ntmps63
  go_wp2_with fail
  refine (dnew_at _ nn (by have h1 := HM.out; have h2 := HN.out; omega) hnn _).mono ?_; rintro e w1 ⟨rfl, hb1⟩
  have hz1 := hb1.size; (try simp at hz1); obtain ⟨hc1, hf1⟩ := bcell hb1
  have hB_w_1 := below_step (w := w) hb1 (by repeat (first | (with_reducible assumption) | (with_reducible exact Below.refl _ _) | (with_reducible refine Below.drew ?_) | (with_reducible refine below_drewN' ?_ _) | (with_reducible refine below_al ?_) | ((with_reducible refine below_set ?_ ?_); rotate_left; focus (first | (simp; done) | (simp; omega)))))
  have le_w_w1 : w.heap.size ≤ w1.heap.size := by omega
  try have lt_w_w1 : w.heap.size < w1.heap.size := by omega
  try have lp01_w_w1 : w.heap.size < w1.heap.size + 1 := by omega
  try have lp02_w_w1 : w.heap.size < w1.heap.size + 1 + 1 := by omega
  try have lp03_w_w1 : w.heap.size < w1.heap.size + 1 + 1 + 1 := by omega
  try have lp11_w_w1 : w.heap.size + 1 < w1.heap.size + 1 := by omega
  try have lp12_w_w1 : w.heap.size + 1 < w1.heap.size + 1 + 1 := by omega
  try have lp13_w_w1 : w.heap.size + 1 < w1.heap.size + 1 + 1 + 1 := by omega
  try have lp22_w_w1 : w.heap.size + 1 + 1 < w1.heap.size + 1 + 1 := by omega
  try have lp23_w_w1 : w.heap.size + 1 + 1 < w1.heap.size + 1 + 1 + 1 := by omega
  try have le1_w_w1 : w.heap.size + 1 ≤ w1.heap.size := by omega
  try have lt1_w_w1 : w.heap.size + 1 < w1.heap.size := by omega
  try have le2_w_w1 : w.heap.size + 1 + 1 ≤ w1.heap.size := by omega
  try have lt2_w_w1 : w.heap.size + 1 + 1 < w1.heap.size := by omega
  have s1_w1 : w1.heap.size < w1.heap.size + 1 + 1 := by omega
  have s2_w1 : w1.heap.size < w1.heap.size + 1 + 1 + 1 := by omega
  have g0 := below_some hb1 _ _ _ (cell_nu (k := w.heap.size + 1 + 1) (i := 0) (by simp) rfl)
  have g1 := below_some hb1 _ _ _ (cell_nu (k := w.heap.size + 1 + 1) (i := 1) (by simp) rfl)
  go_wp2_with fail
  refine bodyPost_ret (v := .tuple #[.agg #[.int .i64 (Thi.rN nn 360), .int .i64 (Thi.rD nn 360)], .int .i64 0]) (by simp [results, Tryd.results63, go_sem, g0, g1]) rfl ⟨rfl, ?_⟩
  exact below_set (below_set hB_w_1 (by simp; try omega)) (by simp; try omega)
theorem dpart_c (y1 m1 e1 y2 m2 e2 D1 D2 N : Int) (nn : Nat) (hy : 1 ≤ y1 ∧ y1 ≤ 9999 ∧ 1 ≤ y2 ∧ y2 ≤ 9999 ∧ 1 ≤ m1 ∧ m1 ≤ 12 ∧ 1 ≤ m2 ∧ m2 ≤ 12 ∧ 0 ≤ D1 ∧ D1 ≤ 100 ∧ 0 ≤ D2 ∧ D2 ≤ 100) (HN : Hid (360 * (y2 - y1) + 30 * (m2 - m1) + (D2 - D1) = N)) (HM : Hid (max 0 N = (nn : Int))) (hnn : nn ≤ 4000000) (w : World) :
    Calls Tryd.prog 63 #[.agg #[.int .i64 y1, .int .i64 m1, .int .i64 e1], .agg #[.int .i64 y2, .int .i64 m2, .int .i64 e2], .int .i64 D1, .int .i64 D2] w fun e w' => e = .returned (.tuple #[.agg #[.int .i64 (Thi.rN nn 360), .int .i64 (Thi.rD nn 360)], .int .i64 0]) ∧ Below w.heap.size w w' := by
  by_cases h0 : 0 ≤ N
  · exact dpart_p y1 m1 e1 y2 m2 e2 D1 D2 N nn hy HN h0 HM hnn w
  · exact dpart_n y1 m1 e1 y2 m2 e2 D1 D2 N nn hy HN (by omega) HM hnn w
end Go.Proofs.YtjcjchapfiokeaaDoor
