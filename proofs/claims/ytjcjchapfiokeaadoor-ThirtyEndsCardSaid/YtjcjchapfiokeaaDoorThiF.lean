/- Months of 30 days, the document's: the three ways, as plain counts. Conditions: none. -/
import Derived.Test.YtjcjchapfiokeaaDoorThiE
namespace Go.Proofs.YtjcjchapfiokeaaDoor
open Go.RowKit
set_option linter.unusedVariables false
set_option linter.unusedSimpArgs false
theorem rof_in (n y m d : Int) (h1 : 1 ≤ n) (h2 : n ≤ 3652059) (hy : Hid (Cal.yOf n = y ∧ Cal.mOf n = m ∧ Cal.dOf n = d)) (w : World) : Calls Tryd.prog 26 #[.int .i64 n] w fun e w' => e = .returned (.tuple #[.agg #[.int .i64 y, .int .i64 m, .int .i64 d], .int .i64 0]) ∧ Below w.heap.size w w' := by
  have h := rof_yes n w h1 h2
  obtain ⟨f1, f2, f3⟩ := hy.out
  rw [f1, f2, f3] at h; exact h
theorem dus_a (a b : Int) (eom : Bool) (h : dayB a = false) (z : Bool) (hx : dayB b = z) (w : World) : Calls Tryd.prog 31 #[.int .i64 a, .int .i64 b, .bool eom] w fun e w' => e = .returned (.tuple #[.agg #[.int .i64 0, .int .i64 0], .int .i64 3]) ∧ Below w.heap.size w w' := by
  have hB : Below w.heap.size w w := Below.refl _ _
  go_enter Tryd.func31, Tryd.ntmps31
  go_wp2_with fail
  refine (why_a a b h z hx _).mono ?_; rintro e w1 ⟨rfl, hb1⟩
  have hz1 := hb1.size; (try simp at hz1); obtain ⟨hc1, hf1⟩ := bcell hb1
  have hB_w_1 := below_step (w := w) hb1 (by repeat (first | (with_reducible assumption) | (with_reducible exact Below.refl _ _) | (with_reducible refine Below.drew ?_) | (with_reducible refine below_drewN' ?_ _) | (with_reducible refine below_al ?_) | ((with_reducible refine below_set ?_ ?_); rotate_left; focus (first | (simp; done) | (simp; omega)))))
  have le_w_w1 : w.heap.size ≤ w1.heap.size := by omega
  try have lt_w_w1 : w.heap.size < w1.heap.size := by omega
  try have lp01_w_w1 : w.heap.size < w1.heap.size + 1 := by omega
  try have lp02_w_w1 : w.heap.size < w1.heap.size + 1 + 1 := by omega
  try have lp03_w_w1 : w.heap.size < w1.heap.size + 1 + 1 + 1 := by omega
  try have lp11_w_w1 : w.heap.size + 1 < w1.heap.size + 1 := by omega
  try have lp12_w_w1 : w.heap.size + 1 < w1.heap.size + 1 + 1 := by omega
  try have lp13_w_w1 : w.heap.size + 1 < w1.heap.size + 1 + 1 + 1 := by omega
  try have lp22_w_w1 : w.heap.size + 1 + 1 < w1.heap.size + 1 + 1 := by omega
  try have lp23_w_w1 : w.heap.size + 1 + 1 < w1.heap.size + 1 + 1 + 1 := by omega
  have s1_w1 : w1.heap.size < w1.heap.size + 1 + 1 := by omega
  have s2_w1 : w1.heap.size < w1.heap.size + 1 + 1 + 1 := by omega
  have g0 := below_some hb1 _ _ _ (cell_nu (k := w.heap.size) (i := 0) rfl rfl)
  have g1 := below_some hb1 _ _ _ (cell_nu (k := w.heap.size) (i := 1) rfl rfl)
  go_wp2_with fail
  refine bodyPost_ret (v := .tuple #[.agg #[.int .i64 0, .int .i64 0], .int .i64 3]) (by simp [results, Tryd.results31, go_sem, g0, g1]) rfl ⟨rfl, ?_⟩
  exact below_set (below_set hB_w_1 (by simp; try omega)) (by simp; try omega)
theorem dus_b (a b : Int) (eom : Bool) (h : dayB a = true) (h' : dayB b = false) (w : World) : Calls Tryd.prog 31 #[.int .i64 a, .int .i64 b, .bool eom] w fun e w' => e = .returned (.tuple #[.agg #[.int .i64 0, .int .i64 0], .int .i64 3]) ∧ Below w.heap.size w w' := by
  have hB : Below w.heap.size w w := Below.refl _ _
  go_enter Tryd.func31, Tryd.ntmps31
  go_wp2_with fail
  refine (why_b a b h h' _).mono ?_; rintro e w1 ⟨rfl, hb1⟩
  have hz1 := hb1.size; (try simp at hz1); obtain ⟨hc1, hf1⟩ := bcell hb1
  have hB_w_1 := below_step (w := w) hb1 (by repeat (first | (with_reducible assumption) | (with_reducible exact Below.refl _ _) | (with_reducible refine Below.drew ?_) | (with_reducible refine below_drewN' ?_ _) | (with_reducible refine below_al ?_) | ((with_reducible refine below_set ?_ ?_); rotate_left; focus (first | (simp; done) | (simp; omega)))))
  have le_w_w1 : w.heap.size ≤ w1.heap.size := by omega
  try have lt_w_w1 : w.heap.size < w1.heap.size := by omega
  try have lp01_w_w1 : w.heap.size < w1.heap.size + 1 := by omega
  try have lp02_w_w1 : w.heap.size < w1.heap.size + 1 + 1 := by omega
  try have lp03_w_w1 : w.heap.size < w1.heap.size + 1 + 1 + 1 := by omega
  try have lp11_w_w1 : w.heap.size + 1 < w1.heap.size + 1 := by omega
  try have lp12_w_w1 : w.heap.size + 1 < w1.heap.size + 1 + 1 := by omega
  try have lp13_w_w1 : w.heap.size + 1 < w1.heap.size + 1 + 1 + 1 := by omega
  try have lp22_w_w1 : w.heap.size + 1 + 1 < w1.heap.size + 1 + 1 := by omega
  try have lp23_w_w1 : w.heap.size + 1 + 1 < w1.heap.size + 1 + 1 + 1 := by omega
  have s1_w1 : w1.heap.size < w1.heap.size + 1 + 1 := by omega
  have s2_w1 : w1.heap.size < w1.heap.size + 1 + 1 + 1 := by omega
  have g0 := below_some hb1 _ _ _ (cell_nu (k := w.heap.size) (i := 0) rfl rfl)
  have g1 := below_some hb1 _ _ _ (cell_nu (k := w.heap.size) (i := 1) rfl rfl)
  go_wp2_with fail
  refine bodyPost_ret (v := .tuple #[.agg #[.int .i64 0, .int .i64 0], .int .i64 3]) (by simp [results, Tryd.results31, go_sem, g0, g1]) rfl ⟨rfl, ?_⟩
  exact below_set (below_set hB_w_1 (by simp; try omega)) (by simp; try omega)
theorem dus_o (a b : Int) (eom : Bool) (h : dayB a = true) (h' : dayB b = true) (hab : b < a) (w : World) : Calls Tryd.prog 31 #[.int .i64 a, .int .i64 b, .bool eom] w fun e w' => e = .returned (.tuple #[.agg #[.int .i64 0, .int .i64 0], .int .i64 4]) ∧ Below w.heap.size w w' := by
  have hB : Below w.heap.size w w := Below.refl _ _
  go_enter Tryd.func31, Tryd.ntmps31
  go_wp2_with fail
  refine (why_o a b h h' (by omega) _).mono ?_; rintro e w1 ⟨rfl, hb1⟩
  have hz1 := hb1.size; (try simp at hz1); obtain ⟨hc1, hf1⟩ := bcell hb1
  have hB_w_1 := below_step (w := w) hb1 (by repeat (first | (with_reducible assumption) | (with_reducible exact Below.refl _ _) | (with_reducible refine Below.drew ?_) | (with_reducible refine below_drewN' ?_ _) | (with_reducible refine below_al ?_) | ((with_reducible refine below_set ?_ ?_); rotate_left; focus (first | (simp; done) | (simp; omega)))))
  have le_w_w1 : w.heap.size ≤ w1.heap.size := by omega
  try have lt_w_w1 : w.heap.size < w1.heap.size := by omega
  try have lp01_w_w1 : w.heap.size < w1.heap.size + 1 := by omega
  try have lp02_w_w1 : w.heap.size < w1.heap.size + 1 + 1 := by omega
  try have lp03_w_w1 : w.heap.size < w1.heap.size + 1 + 1 + 1 := by omega
  try have lp11_w_w1 : w.heap.size + 1 < w1.heap.size + 1 := by omega
  try have lp12_w_w1 : w.heap.size + 1 < w1.heap.size + 1 + 1 := by omega
  try have lp13_w_w1 : w.heap.size + 1 < w1.heap.size + 1 + 1 + 1 := by omega
  try have lp22_w_w1 : w.heap.size + 1 + 1 < w1.heap.size + 1 + 1 := by omega
  try have lp23_w_w1 : w.heap.size + 1 + 1 < w1.heap.size + 1 + 1 + 1 := by omega
  have s1_w1 : w1.heap.size < w1.heap.size + 1 + 1 := by omega
  have s2_w1 : w1.heap.size < w1.heap.size + 1 + 1 + 1 := by omega
  have g0 := below_some hb1 _ _ _ (cell_nu (k := w.heap.size) (i := 0) rfl rfl)
  have g1 := below_some hb1 _ _ _ (cell_nu (k := w.heap.size) (i := 1) rfl rfl)
  go_wp2_with fail
  refine bodyPost_ret (v := .tuple #[.agg #[.int .i64 0, .int .i64 0], .int .i64 4]) (by simp [results, Tryd.results31, go_sem, g0, g1]) rfl ⟨rfl, ?_⟩
  exact below_set (below_set hB_w_1 (by simp; try omega)) (by simp; try omega)
theorem de_a (a b : Int)  (h : dayB a = false) (z : Bool) (hx : dayB b = z) (w : World) : Calls Tryd.prog 33 #[.int .i64 a, .int .i64 b] w fun e w' => e = .returned (.tuple #[.agg #[.int .i64 0, .int .i64 0], .int .i64 3]) ∧ Below w.heap.size w w' := by
  have hB : Below w.heap.size w w := Below.refl _ _
  go_enter Tryd.func33, Tryd.ntmps33
  go_wp2_with fail
  refine (why_a a b h z hx _).mono ?_; rintro e w1 ⟨rfl, hb1⟩
  have hz1 := hb1.size; (try simp at hz1); obtain ⟨hc1, hf1⟩ := bcell hb1
  have hB_w_1 := below_step (w := w) hb1 (by repeat (first | (with_reducible assumption) | (with_reducible exact Below.refl _ _) | (with_reducible refine Below.drew ?_) | (with_reducible refine below_drewN' ?_ _) | (with_reducible refine below_al ?_) | ((with_reducible refine below_set ?_ ?_); rotate_left; focus (first | (simp; done) | (simp; omega)))))
  have le_w_w1 : w.heap.size ≤ w1.heap.size := by omega
  try have lt_w_w1 : w.heap.size < w1.heap.size := by omega
  try have lp01_w_w1 : w.heap.size < w1.heap.size + 1 := by omega
  try have lp02_w_w1 : w.heap.size < w1.heap.size + 1 + 1 := by omega
  try have lp03_w_w1 : w.heap.size < w1.heap.size + 1 + 1 + 1 := by omega
  try have lp11_w_w1 : w.heap.size + 1 < w1.heap.size + 1 := by omega
  try have lp12_w_w1 : w.heap.size + 1 < w1.heap.size + 1 + 1 := by omega
  try have lp13_w_w1 : w.heap.size + 1 < w1.heap.size + 1 + 1 + 1 := by omega
  try have lp22_w_w1 : w.heap.size + 1 + 1 < w1.heap.size + 1 + 1 := by omega
  try have lp23_w_w1 : w.heap.size + 1 + 1 < w1.heap.size + 1 + 1 + 1 := by omega
  have s1_w1 : w1.heap.size < w1.heap.size + 1 + 1 := by omega
  have s2_w1 : w1.heap.size < w1.heap.size + 1 + 1 + 1 := by omega
  have g0 := below_some hb1 _ _ _ (cell_nu (k := w.heap.size) (i := 0) rfl rfl)
  have g1 := below_some hb1 _ _ _ (cell_nu (k := w.heap.size) (i := 1) rfl rfl)
  go_wp2_with fail
  refine bodyPost_ret (v := .tuple #[.agg #[.int .i64 0, .int .i64 0], .int .i64 3]) (by simp [results, Tryd.results33, go_sem, g0, g1]) rfl ⟨rfl, ?_⟩
  exact below_set (below_set hB_w_1 (by simp; try omega)) (by simp; try omega)
theorem de_b (a b : Int)  (h : dayB a = true) (h' : dayB b = false) (w : World) : Calls Tryd.prog 33 #[.int .i64 a, .int .i64 b] w fun e w' => e = .returned (.tuple #[.agg #[.int .i64 0, .int .i64 0], .int .i64 3]) ∧ Below w.heap.size w w' := by
  have hB : Below w.heap.size w w := Below.refl _ _
  go_enter Tryd.func33, Tryd.ntmps33
  go_wp2_with fail
  refine (why_b a b h h' _).mono ?_; rintro e w1 ⟨rfl, hb1⟩
  have hz1 := hb1.size; (try simp at hz1); obtain ⟨hc1, hf1⟩ := bcell hb1
  have hB_w_1 := below_step (w := w) hb1 (by repeat (first | (with_reducible assumption) | (with_reducible exact Below.refl _ _) | (with_reducible refine Below.drew ?_) | (with_reducible refine below_drewN' ?_ _) | (with_reducible refine below_al ?_) | ((with_reducible refine below_set ?_ ?_); rotate_left; focus (first | (simp; done) | (simp; omega)))))
  have le_w_w1 : w.heap.size ≤ w1.heap.size := by omega
  try have lt_w_w1 : w.heap.size < w1.heap.size := by omega
  try have lp01_w_w1 : w.heap.size < w1.heap.size + 1 := by omega
  try have lp02_w_w1 : w.heap.size < w1.heap.size + 1 + 1 := by omega
  try have lp03_w_w1 : w.heap.size < w1.heap.size + 1 + 1 + 1 := by omega
  try have lp11_w_w1 : w.heap.size + 1 < w1.heap.size + 1 := by omega
  try have lp12_w_w1 : w.heap.size + 1 < w1.heap.size + 1 + 1 := by omega
  try have lp13_w_w1 : w.heap.size + 1 < w1.heap.size + 1 + 1 + 1 := by omega
  try have lp22_w_w1 : w.heap.size + 1 + 1 < w1.heap.size + 1 + 1 := by omega
  try have lp23_w_w1 : w.heap.size + 1 + 1 < w1.heap.size + 1 + 1 + 1 := by omega
  have s1_w1 : w1.heap.size < w1.heap.size + 1 + 1 := by omega
  have s2_w1 : w1.heap.size < w1.heap.size + 1 + 1 + 1 := by omega
  have g0 := below_some hb1 _ _ _ (cell_nu (k := w.heap.size) (i := 0) rfl rfl)
  have g1 := below_some hb1 _ _ _ (cell_nu (k := w.heap.size) (i := 1) rfl rfl)
  go_wp2_with fail
  refine bodyPost_ret (v := .tuple #[.agg #[.int .i64 0, .int .i64 0], .int .i64 3]) (by simp [results, Tryd.results33, go_sem, g0, g1]) rfl ⟨rfl, ?_⟩
  exact below_set (below_set hB_w_1 (by simp; try omega)) (by simp; try omega)
theorem de_o (a b : Int)  (h : dayB a = true) (h' : dayB b = true) (hab : b < a) (w : World) : Calls Tryd.prog 33 #[.int .i64 a, .int .i64 b] w fun e w' => e = .returned (.tuple #[.agg #[.int .i64 0, .int .i64 0], .int .i64 4]) ∧ Below w.heap.size w w' := by
  have hB : Below w.heap.size w w := Below.refl _ _
  go_enter Tryd.func33, Tryd.ntmps33
  go_wp2_with fail
  refine (why_o a b h h' (by omega) _).mono ?_; rintro e w1 ⟨rfl, hb1⟩
  have hz1 := hb1.size; (try simp at hz1); obtain ⟨hc1, hf1⟩ := bcell hb1
  have hB_w_1 := below_step (w := w) hb1 (by repeat (first | (with_reducible assumption) | (with_reducible exact Below.refl _ _) | (with_reducible refine Below.drew ?_) | (with_reducible refine below_drewN' ?_ _) | (with_reducible refine below_al ?_) | ((with_reducible refine below_set ?_ ?_); rotate_left; focus (first | (simp; done) | (simp; omega)))))
  have le_w_w1 : w.heap.size ≤ w1.heap.size := by omega
  try have lt_w_w1 : w.heap.size < w1.heap.size := by omega
  try have lp01_w_w1 : w.heap.size < w1.heap.size + 1 := by omega
  try have lp02_w_w1 : w.heap.size < w1.heap.size + 1 + 1 := by omega
  try have lp03_w_w1 : w.heap.size < w1.heap.size + 1 + 1 + 1 := by omega
  try have lp11_w_w1 : w.heap.size + 1 < w1.heap.size + 1 := by omega
  try have lp12_w_w1 : w.heap.size + 1 < w1.heap.size + 1 + 1 := by omega
  try have lp13_w_w1 : w.heap.size + 1 < w1.heap.size + 1 + 1 + 1 := by omega
  try have lp22_w_w1 : w.heap.size + 1 + 1 < w1.heap.size + 1 + 1 := by omega
  try have lp23_w_w1 : w.heap.size + 1 + 1 < w1.heap.size + 1 + 1 + 1 := by omega
  have s1_w1 : w1.heap.size < w1.heap.size + 1 + 1 := by omega
  have s2_w1 : w1.heap.size < w1.heap.size + 1 + 1 + 1 := by omega
  have g0 := below_some hb1 _ _ _ (cell_nu (k := w.heap.size) (i := 0) rfl rfl)
  have g1 := below_some hb1 _ _ _ (cell_nu (k := w.heap.size) (i := 1) rfl rfl)
  go_wp2_with fail
  refine bodyPost_ret (v := .tuple #[.agg #[.int .i64 0, .int .i64 0], .int .i64 4]) (by simp [results, Tryd.results33, go_sem, g0, g1]) rfl ⟨rfl, ?_⟩
  exact below_set (below_set hB_w_1 (by simp; try omega)) (by simp; try omega)
theorem dis_a (a b : Int) (x : Int) (h : dayB a = false) (z : Bool) (hx : dayB b = z) (w : World) : Calls Tryd.prog 35 #[.int .i64 a, .int .i64 b, .int .i64 x] w fun e w' => e = .returned (.tuple #[.agg #[.int .i64 0, .int .i64 0], .int .i64 3]) ∧ Below w.heap.size w w' := by
  have hB : Below w.heap.size w w := Below.refl _ _
  go_enter Tryd.func35, Tryd.ntmps35
  go_wp2_with fail
  refine (why_a a b h z hx _).mono ?_; rintro e w1 ⟨rfl, hb1⟩
  have hz1 := hb1.size; (try simp at hz1); obtain ⟨hc1, hf1⟩ := bcell hb1
  have hB_w_1 := below_step (w := w) hb1 (by repeat (first | (with_reducible assumption) | (with_reducible exact Below.refl _ _) | (with_reducible refine Below.drew ?_) | (with_reducible refine below_drewN' ?_ _) | (with_reducible refine below_al ?_) | ((with_reducible refine below_set ?_ ?_); rotate_left; focus (first | (simp; done) | (simp; omega)))))
  have le_w_w1 : w.heap.size ≤ w1.heap.size := by omega
  try have lt_w_w1 : w.heap.size < w1.heap.size := by omega
  try have lp01_w_w1 : w.heap.size < w1.heap.size + 1 := by omega
  try have lp02_w_w1 : w.heap.size < w1.heap.size + 1 + 1 := by omega
  try have lp03_w_w1 : w.heap.size < w1.heap.size + 1 + 1 + 1 := by omega
  try have lp11_w_w1 : w.heap.size + 1 < w1.heap.size + 1 := by omega
  try have lp12_w_w1 : w.heap.size + 1 < w1.heap.size + 1 + 1 := by omega
  try have lp13_w_w1 : w.heap.size + 1 < w1.heap.size + 1 + 1 + 1 := by omega
  try have lp22_w_w1 : w.heap.size + 1 + 1 < w1.heap.size + 1 + 1 := by omega
  try have lp23_w_w1 : w.heap.size + 1 + 1 < w1.heap.size + 1 + 1 + 1 := by omega
  have s1_w1 : w1.heap.size < w1.heap.size + 1 + 1 := by omega
  have s2_w1 : w1.heap.size < w1.heap.size + 1 + 1 + 1 := by omega
  have g0 := below_some hb1 _ _ _ (cell_nu (k := w.heap.size) (i := 0) rfl rfl)
  have g1 := below_some hb1 _ _ _ (cell_nu (k := w.heap.size) (i := 1) rfl rfl)
  go_wp2_with fail
  refine bodyPost_ret (v := .tuple #[.agg #[.int .i64 0, .int .i64 0], .int .i64 3]) (by simp [results, Tryd.results35, go_sem, g0, g1]) rfl ⟨rfl, ?_⟩
  exact below_set (below_set hB_w_1 (by simp; try omega)) (by simp; try omega)
theorem dis_b (a b : Int) (x : Int) (h : dayB a = true) (h' : dayB b = false) (w : World) : Calls Tryd.prog 35 #[.int .i64 a, .int .i64 b, .int .i64 x] w fun e w' => e = .returned (.tuple #[.agg #[.int .i64 0, .int .i64 0], .int .i64 3]) ∧ Below w.heap.size w w' := by
  have hB : Below w.heap.size w w := Below.refl _ _
  go_enter Tryd.func35, Tryd.ntmps35
  go_wp2_with fail
  refine (why_b a b h h' _).mono ?_; rintro e w1 ⟨rfl, hb1⟩
  have hz1 := hb1.size; (try simp at hz1); obtain ⟨hc1, hf1⟩ := bcell hb1
  have hB_w_1 := below_step (w := w) hb1 (by repeat (first | (with_reducible assumption) | (with_reducible exact Below.refl _ _) | (with_reducible refine Below.drew ?_) | (with_reducible refine below_drewN' ?_ _) | (with_reducible refine below_al ?_) | ((with_reducible refine below_set ?_ ?_); rotate_left; focus (first | (simp; done) | (simp; omega)))))
  have le_w_w1 : w.heap.size ≤ w1.heap.size := by omega
  try have lt_w_w1 : w.heap.size < w1.heap.size := by omega
  try have lp01_w_w1 : w.heap.size < w1.heap.size + 1 := by omega
  try have lp02_w_w1 : w.heap.size < w1.heap.size + 1 + 1 := by omega
  try have lp03_w_w1 : w.heap.size < w1.heap.size + 1 + 1 + 1 := by omega
  try have lp11_w_w1 : w.heap.size + 1 < w1.heap.size + 1 := by omega
  try have lp12_w_w1 : w.heap.size + 1 < w1.heap.size + 1 + 1 := by omega
  try have lp13_w_w1 : w.heap.size + 1 < w1.heap.size + 1 + 1 + 1 := by omega
  try have lp22_w_w1 : w.heap.size + 1 + 1 < w1.heap.size + 1 + 1 := by omega
  try have lp23_w_w1 : w.heap.size + 1 + 1 < w1.heap.size + 1 + 1 + 1 := by omega
  have s1_w1 : w1.heap.size < w1.heap.size + 1 + 1 := by omega
  have s2_w1 : w1.heap.size < w1.heap.size + 1 + 1 + 1 := by omega
  have g0 := below_some hb1 _ _ _ (cell_nu (k := w.heap.size) (i := 0) rfl rfl)
  have g1 := below_some hb1 _ _ _ (cell_nu (k := w.heap.size) (i := 1) rfl rfl)
  go_wp2_with fail
  refine bodyPost_ret (v := .tuple #[.agg #[.int .i64 0, .int .i64 0], .int .i64 3]) (by simp [results, Tryd.results35, go_sem, g0, g1]) rfl ⟨rfl, ?_⟩
  exact below_set (below_set hB_w_1 (by simp; try omega)) (by simp; try omega)
theorem dis_o (a b : Int) (x : Int) (h : dayB a = true) (h' : dayB b = true) (hab : b < a) (w : World) : Calls Tryd.prog 35 #[.int .i64 a, .int .i64 b, .int .i64 x] w fun e w' => e = .returned (.tuple #[.agg #[.int .i64 0, .int .i64 0], .int .i64 4]) ∧ Below w.heap.size w w' := by
  have hB : Below w.heap.size w w := Below.refl _ _
  go_enter Tryd.func35, Tryd.ntmps35
  go_wp2_with fail
  refine (why_o a b h h' (by omega) _).mono ?_; rintro e w1 ⟨rfl, hb1⟩
  have hz1 := hb1.size; (try simp at hz1); obtain ⟨hc1, hf1⟩ := bcell hb1
  have hB_w_1 := below_step (w := w) hb1 (by repeat (first | (with_reducible assumption) | (with_reducible exact Below.refl _ _) | (with_reducible refine Below.drew ?_) | (with_reducible refine below_drewN' ?_ _) | (with_reducible refine below_al ?_) | ((with_reducible refine below_set ?_ ?_); rotate_left; focus (first | (simp; done) | (simp; omega)))))
  have le_w_w1 : w.heap.size ≤ w1.heap.size := by omega
  try have lt_w_w1 : w.heap.size < w1.heap.size := by omega
  try have lp01_w_w1 : w.heap.size < w1.heap.size + 1 := by omega
  try have lp02_w_w1 : w.heap.size < w1.heap.size + 1 + 1 := by omega
  try have lp03_w_w1 : w.heap.size < w1.heap.size + 1 + 1 + 1 := by omega
  try have lp11_w_w1 : w.heap.size + 1 < w1.heap.size + 1 := by omega
  try have lp12_w_w1 : w.heap.size + 1 < w1.heap.size + 1 + 1 := by omega
  try have lp13_w_w1 : w.heap.size + 1 < w1.heap.size + 1 + 1 + 1 := by omega
  try have lp22_w_w1 : w.heap.size + 1 + 1 < w1.heap.size + 1 + 1 := by omega
  try have lp23_w_w1 : w.heap.size + 1 + 1 < w1.heap.size + 1 + 1 + 1 := by omega
  have s1_w1 : w1.heap.size < w1.heap.size + 1 + 1 := by omega
  have s2_w1 : w1.heap.size < w1.heap.size + 1 + 1 + 1 := by omega
  have g0 := below_some hb1 _ _ _ (cell_nu (k := w.heap.size) (i := 0) rfl rfl)
  have g1 := below_some hb1 _ _ _ (cell_nu (k := w.heap.size) (i := 1) rfl rfl)
  go_wp2_with fail
  refine bodyPost_ret (v := .tuple #[.agg #[.int .i64 0, .int .i64 0], .int .i64 4]) (by simp [results, Tryd.results35, go_sem, g0, g1]) rfl ⟨rfl, ?_⟩
  exact below_set (below_set hB_w_1 (by simp; try omega)) (by simp; try omega)
set_option maxHeartbeats 8000000 in
theorem de_ok (a b y1 m1 d1 y2 m2 d2 N : Int) (l1 l2 : Bool) (nn : Nat)  (h1 : 1 ≤ a) (h2 : a ≤ 3652059) (h3 : 1 ≤ b) (h4 : b ≤ 3652059) (hab : ¬ b < a) (HA : Hid (Cal.yOf a = y1 ∧ Cal.mOf a = m1 ∧ Cal.dOf a = d1)) (HB' : Hid (Cal.yOf b = y2 ∧ Cal.mOf b = m2 ∧ Cal.dOf b = d2)) (HL : Hid (Mon.lastB a = l1 ∧ Mon.lastB b = l2)) (hy : 1 ≤ y1 ∧ y1 ≤ 9999 ∧ 1 ≤ y2 ∧ y2 ≤ 9999 ∧ 1 ≤ m1 ∧ m1 ≤ 12 ∧ 1 ≤ m2 ∧ m2 ≤ 12 ∧ 1 ≤ d1 ∧ d1 ≤ 31 ∧ 1 ≤ d2 ∧ d2 ≤ 31) (HN : Hid (360 * (y2 - y1) + 30 * (m2 - m1) + (min d2 30 - min d1 30) = N)) (HM : Hid (max 0 N = (nn : Int))) (hnn : nn ≤ 4000000)  (w : World) :
    Calls Tryd.prog 33 #[.int .i64 a, .int .i64 b] w fun e w' => e = .returned (.tuple #[.agg #[.int .i64 (Thi.rN nn 360), .int .i64 (Thi.rD nn 360)], .int .i64 0]) ∧ Below w.heap.size w w' := by
  have HD := Lib.hid (And.intro (dayB_in h1 h2) (dayB_in h3 h4))
  have HY := Lib.hid hy
  clear hy
  have hB : Below w.heap.size w w := Below.refl _ _
  go_enter Tryd.func33, Tryd.ntmps33
  go_wp2_with fail
  refine (why_k a b HD.out.1 HD.out.2 (by omega) _).mono ?_; rintro e w1 ⟨rfl, hb1⟩
  have hz1 := hb1.size; (try simp at hz1); obtain ⟨hc1, hf1⟩ := bcell hb1
  have hB_w_1 := below_step (w := w) hb1 (by repeat (first | (with_reducible assumption) | (with_reducible exact Below.refl _ _) | (with_reducible refine Below.drew ?_) | (with_reducible refine below_drewN' ?_ _) | (with_reducible refine below_al ?_) | ((with_reducible refine below_set ?_ ?_); rotate_left; focus (first | (simp; done) | (simp; omega)))))
  have le_w_w1 : w.heap.size ≤ w1.heap.size := by omega
  try have lt_w_w1 : w.heap.size < w1.heap.size := by omega
  try have lp01_w_w1 : w.heap.size < w1.heap.size + 1 := by omega
  try have lp02_w_w1 : w.heap.size < w1.heap.size + 1 + 1 := by omega
  try have lp03_w_w1 : w.heap.size < w1.heap.size + 1 + 1 + 1 := by omega
  try have lp11_w_w1 : w.heap.size + 1 < w1.heap.size + 1 := by omega
  try have lp12_w_w1 : w.heap.size + 1 < w1.heap.size + 1 + 1 := by omega
  try have lp13_w_w1 : w.heap.size + 1 < w1.heap.size + 1 + 1 + 1 := by omega
  try have lp22_w_w1 : w.heap.size + 1 + 1 < w1.heap.size + 1 + 1 := by omega
  try have lp23_w_w1 : w.heap.size + 1 + 1 < w1.heap.size + 1 + 1 + 1 := by omega
  have s1_w1 : w1.heap.size < w1.heap.size + 1 + 1 := by omega
  have s2_w1 : w1.heap.size < w1.heap.size + 1 + 1 + 1 := by omega
  go_wp2_with fail
  refine (rof_in _ _ _ _ h1 h2 HA _).mono ?_; rintro e w2 ⟨rfl, hb2⟩
  have hz2 := hb2.size; (try simp at hz2); obtain ⟨hc2, hf2⟩ := bcell hb2
  have hB_w_2 := below_step (w := w) hb2 (by repeat (first | (with_reducible assumption) | (with_reducible exact Below.refl _ _) | (with_reducible refine Below.drew ?_) | (with_reducible refine below_drewN' ?_ _) | (with_reducible refine below_al ?_) | ((with_reducible refine below_set ?_ ?_); rotate_left; focus (first | (simp; done) | (simp; omega)))))
  have hB_w1_2 := below_step (w := w1) hb2 (by repeat (first | (with_reducible assumption) | (with_reducible exact Below.refl _ _) | (with_reducible refine Below.drew ?_) | (with_reducible refine below_drewN' ?_ _) | (with_reducible refine below_al ?_) | ((with_reducible refine below_set ?_ ?_); rotate_left; focus (first | (simp; done) | (simp; omega)))))
  have le_w_w2 : w.heap.size ≤ w2.heap.size := by omega
  try have lt_w_w2 : w.heap.size < w2.heap.size := by omega
  try have lp01_w_w2 : w.heap.size < w2.heap.size + 1 := by omega
  try have lp02_w_w2 : w.heap.size < w2.heap.size + 1 + 1 := by omega
  try have lp03_w_w2 : w.heap.size < w2.heap.size + 1 + 1 + 1 := by omega
  try have lp11_w_w2 : w.heap.size + 1 < w2.heap.size + 1 := by omega
  try have lp12_w_w2 : w.heap.size + 1 < w2.heap.size + 1 + 1 := by omega
  try have lp13_w_w2 : w.heap.size + 1 < w2.heap.size + 1 + 1 + 1 := by omega
  try have lp22_w_w2 : w.heap.size + 1 + 1 < w2.heap.size + 1 + 1 := by omega
  try have lp23_w_w2 : w.heap.size + 1 + 1 < w2.heap.size + 1 + 1 + 1 := by omega
  have le_w1_w2 : w1.heap.size ≤ w2.heap.size := by omega
  try have lt_w1_w2 : w1.heap.size < w2.heap.size := by omega
  try have lp01_w1_w2 : w1.heap.size < w2.heap.size + 1 := by omega
  try have lp02_w1_w2 : w1.heap.size < w2.heap.size + 1 + 1 := by omega
  try have lp03_w1_w2 : w1.heap.size < w2.heap.size + 1 + 1 + 1 := by omega
  try have lp11_w1_w2 : w1.heap.size + 1 < w2.heap.size + 1 := by omega
  try have lp12_w1_w2 : w1.heap.size + 1 < w2.heap.size + 1 + 1 := by omega
  try have lp13_w1_w2 : w1.heap.size + 1 < w2.heap.size + 1 + 1 + 1 := by omega
  try have lp22_w1_w2 : w1.heap.size + 1 + 1 < w2.heap.size + 1 + 1 := by omega
  try have lp23_w1_w2 : w1.heap.size + 1 + 1 < w2.heap.size + 1 + 1 + 1 := by omega
  try have le1_w1_w2 : w1.heap.size + 1 ≤ w2.heap.size := by omega
  try have lt1_w1_w2 : w1.heap.size + 1 < w2.heap.size := by omega
  try have le2_w1_w2 : w1.heap.size + 1 + 1 ≤ w2.heap.size := by omega
  try have lt2_w1_w2 : w1.heap.size + 1 + 1 < w2.heap.size := by omega
  have s1_w2 : w2.heap.size < w2.heap.size + 1 + 1 := by omega
  have s2_w2 : w2.heap.size < w2.heap.size + 1 + 1 + 1 := by omega
  go_wp2_with fail
  refine (rof_in _ _ _ _ h3 h4 HB' _).mono ?_; rintro e w3 ⟨rfl, hb3⟩
  have hz3 := hb3.size; (try simp at hz3); obtain ⟨hc3, hf3⟩ := bcell hb3
  have hB_w_3 := below_step (w := w) hb3 (by repeat (first | (with_reducible assumption) | (with_reducible exact Below.refl _ _) | (with_reducible refine Below.drew ?_) | (with_reducible refine below_drewN' ?_ _) | (with_reducible refine below_al ?_) | ((with_reducible refine below_set ?_ ?_); rotate_left; focus (first | (simp; done) | (simp; omega)))))
  have hB_w1_3 := below_step (w := w1) hb3 (by repeat (first | (with_reducible assumption) | (with_reducible exact Below.refl _ _) | (with_reducible refine Below.drew ?_) | (with_reducible refine below_drewN' ?_ _) | (with_reducible refine below_al ?_) | ((with_reducible refine below_set ?_ ?_); rotate_left; focus (first | (simp; done) | (simp; omega)))))
  have hB_w2_3 := below_step (w := w2) hb3 (by repeat (first | (with_reducible assumption) | (with_reducible exact Below.refl _ _) | (with_reducible refine Below.drew ?_) | (with_reducible refine below_drewN' ?_ _) | (with_reducible refine below_al ?_) | ((with_reducible refine below_set ?_ ?_); rotate_left; focus (first | (simp; done) | (simp; omega)))))
  have le_w_w3 : w.heap.size ≤ w3.heap.size := by omega
  try have lt_w_w3 : w.heap.size < w3.heap.size := by omega
  try have lp01_w_w3 : w.heap.size < w3.heap.size + 1 := by omega
  try have lp02_w_w3 : w.heap.size < w3.heap.size + 1 + 1 := by omega
  try have lp03_w_w3 : w.heap.size < w3.heap.size + 1 + 1 + 1 := by omega
  try have lp11_w_w3 : w.heap.size + 1 < w3.heap.size + 1 := by omega
  try have lp12_w_w3 : w.heap.size + 1 < w3.heap.size + 1 + 1 := by omega
  try have lp13_w_w3 : w.heap.size + 1 < w3.heap.size + 1 + 1 + 1 := by omega
  try have lp22_w_w3 : w.heap.size + 1 + 1 < w3.heap.size + 1 + 1 := by omega
  try have lp23_w_w3 : w.heap.size + 1 + 1 < w3.heap.size + 1 + 1 + 1 := by omega
  have le_w1_w3 : w1.heap.size ≤ w3.heap.size := by omega
  try have lt_w1_w3 : w1.heap.size < w3.heap.size := by omega
  try have lp01_w1_w3 : w1.heap.size < w3.heap.size + 1 := by omega
  try have lp02_w1_w3 : w1.heap.size < w3.heap.size + 1 + 1 := by omega
  try have lp03_w1_w3 : w1.heap.size < w3.heap.size + 1 + 1 + 1 := by omega
  try have lp11_w1_w3 : w1.heap.size + 1 < w3.heap.size + 1 := by omega
  try have lp12_w1_w3 : w1.heap.size + 1 < w3.heap.size + 1 + 1 := by omega
  try have lp13_w1_w3 : w1.heap.size + 1 < w3.heap.size + 1 + 1 + 1 := by omega
  try have lp22_w1_w3 : w1.heap.size + 1 + 1 < w3.heap.size + 1 + 1 := by omega
  try have lp23_w1_w3 : w1.heap.size + 1 + 1 < w3.heap.size + 1 + 1 + 1 := by omega
  try have le1_w1_w3 : w1.heap.size + 1 ≤ w3.heap.size := by omega
  try have lt1_w1_w3 : w1.heap.size + 1 < w3.heap.size := by omega
  try have le2_w1_w3 : w1.heap.size + 1 + 1 ≤ w3.heap.size := by omega
  try have lt2_w1_w3 : w1.heap.size + 1 + 1 < w3.heap.size := by omega
  have le_w2_w3 : w2.heap.size ≤ w3.heap.size := by omega
  try have lt_w2_w3 : w2.heap.size < w3.heap.size := by omega
  try have lp01_w2_w3 : w2.heap.size < w3.heap.size + 1 := by omega
  try have lp02_w2_w3 : w2.heap.size < w3.heap.size + 1 + 1 := by omega
  try have lp03_w2_w3 : w2.heap.size < w3.heap.size + 1 + 1 + 1 := by omega
  try have lp11_w2_w3 : w2.heap.size + 1 < w3.heap.size + 1 := by omega
  try have lp12_w2_w3 : w2.heap.size + 1 < w3.heap.size + 1 + 1 := by omega
  try have lp13_w2_w3 : w2.heap.size + 1 < w3.heap.size + 1 + 1 + 1 := by omega
  try have lp22_w2_w3 : w2.heap.size + 1 + 1 < w3.heap.size + 1 + 1 := by omega
  try have lp23_w2_w3 : w2.heap.size + 1 + 1 < w3.heap.size + 1 + 1 + 1 := by omega
  try have le1_w2_w3 : w2.heap.size + 1 ≤ w3.heap.size := by omega
  try have lt1_w2_w3 : w2.heap.size + 1 < w3.heap.size := by omega
  try have le2_w2_w3 : w2.heap.size + 1 + 1 ≤ w3.heap.size := by omega
  try have lt2_w2_w3 : w2.heap.size + 1 + 1 < w3.heap.size := by omega
  have s1_w3 : w3.heap.size < w3.heap.size + 1 + 1 := by omega
  have s2_w3 : w3.heap.size < w3.heap.size + 1 + 1 + 1 := by omega
  have r0 := below_some hB_w1_3 _ _ _ (below_some hb1 _ _ _ (cell_nu (k := w.heap.size) (i := 0) rfl rfl))
  have r1 := below_some hB_w1_3 _ _ _ (below_some hb1 _ _ _ (cell_nu (k := w.heap.size) (i := 1) rfl rfl))
  have s0 := (hB_w1_3.frozen (p := ⟨w.heap.size, 0, none⟩) lt_w_w1).trans ((hb1.frozen (p := ⟨w.heap.size, 0, none⟩) (by simp)).trans (blk_free (blk_nu rfl)))
  have s1 := (hB_w1_3.frozen (p := ⟨w.heap.size, 1, none⟩) lt_w_w1).trans ((hb1.frozen (p := ⟨w.heap.size, 1, none⟩) (by simp)).trans (blk_free (blk_nu rfl)))
  by_cases k1 : d1 = 31 <;> by_cases k2 : d2 = 31
  all_goals
    go_wp2_with fail
    refine (dpart_c _ _ _ _ _ _ _ _ N nn ?_ ?_ HM hnn _).mono ?_
    · obtain ⟨a1, a2, a3, a4, a5, a6, a7, a8, a9, aa, ab, ac⟩ := HY.out; (try simp only [beq_iff_eq, beq_eq_false_iff_ne] at k0); (try simp only [beq_iff_eq, beq_eq_false_iff_ne] at k1); (try simp only [beq_iff_eq, beq_eq_false_iff_ne] at k2); exact ⟨a1, a2, a3, a4, a5, a6, a7, a8, by omega, by omega, by omega, by omega⟩
    · obtain ⟨a1, a2, a3, a4, a5, a6, a7, a8, a9, aa, ab, ac⟩ := HY.out; refine Lib.hid ?_; have h := HN.out; clear HN HY; omega
    rintro e wz ⟨rfl, hbz⟩
    have hBz := below_step (w := w) hbz (by repeat (first | (with_reducible assumption) | (with_reducible exact Below.refl _ _) | (with_reducible refine Below.drew ?_) | (with_reducible refine below_drewN' ?_ _) | (with_reducible refine below_al ?_) | ((with_reducible refine below_set ?_ ?_); rotate_left; focus (first | (simp; done) | (simp; omega)))))
    have hRz := below_step (w := w3) hbz (by repeat (first | (with_reducible assumption) | (with_reducible exact Below.refl _ _) | (with_reducible refine Below.drew ?_) | (with_reducible refine below_drewN' ?_ _) | (with_reducible refine below_al ?_) | ((with_reducible refine below_set ?_ ?_); rotate_left; focus (first | (simp; done) | (simp; omega)))))
    have t0 := below_some hRz _ _ _ r0
    have t1 := below_some hRz _ _ _ r1
    have u0 := (hRz.frozen (p := ⟨w.heap.size, 0, none⟩) lt_w_w3).trans s0
    have u1 := (hRz.frozen (p := ⟨w.heap.size, 1, none⟩) lt_w_w3).trans s1
    go_wp2_with fail
    refine bodyPost_ret (v := .tuple #[.agg #[.int .i64 (Thi.rN nn 360), .int .i64 (Thi.rD nn 360)], .int .i64 0]) (by simp [results, Tryd.results33, go_sem, t0, t1]) rfl ⟨rfl, ?_⟩
    exact below_set (below_set hBz (Nat.le_refl _)) (Nat.le_refl _)
set_option maxHeartbeats 8000000 in
theorem dis_ok (a b y1 m1 d1 y2 m2 d2 N : Int) (l1 l2 : Bool) (nn : Nat) (x : Int) (h1 : 1 ≤ a) (h2 : a ≤ 3652059) (h3 : 1 ≤ b) (h4 : b ≤ 3652059) (hab : ¬ b < a) (HA : Hid (Cal.yOf a = y1 ∧ Cal.mOf a = m1 ∧ Cal.dOf a = d1)) (HB' : Hid (Cal.yOf b = y2 ∧ Cal.mOf b = m2 ∧ Cal.dOf b = d2)) (HL : Hid (Mon.lastB a = l1 ∧ Mon.lastB b = l2)) (hy : 1 ≤ y1 ∧ y1 ≤ 9999 ∧ 1 ≤ y2 ∧ y2 ≤ 9999 ∧ 1 ≤ m1 ∧ m1 ≤ 12 ∧ 1 ≤ m2 ∧ m2 ≤ 12 ∧ 1 ≤ d1 ∧ d1 ≤ 31 ∧ 1 ≤ d2 ∧ d2 ≤ 31) (HN : Hid (360 * (y2 - y1) + 30 * (m2 - m1) + (ix b x m2 l2 d2 - en l1 d1) = N)) (HM : Hid (max 0 N = (nn : Int))) (hnn : nn ≤ 4000000)  (w : World) :
    Calls Tryd.prog 35 #[.int .i64 a, .int .i64 b, .int .i64 x] w fun e w' => e = .returned (.tuple #[.agg #[.int .i64 (Thi.rN nn 360), .int .i64 (Thi.rD nn 360)], .int .i64 0]) ∧ Below w.heap.size w w' := by
  have HD := Lib.hid (And.intro (dayB_in h1 h2) (dayB_in h3 h4))
  have HY := Lib.hid hy
  clear hy
  have hB : Below w.heap.size w w := Below.refl _ _
  go_enter Tryd.func35, Tryd.ntmps35
  go_wp2_with fail
  refine (why_k a b HD.out.1 HD.out.2 (by omega) _).mono ?_; rintro e w1 ⟨rfl, hb1⟩
  have hz1 := hb1.size; (try simp at hz1); obtain ⟨hc1, hf1⟩ := bcell hb1
  have hB_w_1 := below_step (w := w) hb1 (by repeat (first | (with_reducible assumption) | (with_reducible exact Below.refl _ _) | (with_reducible refine Below.drew ?_) | (with_reducible refine below_drewN' ?_ _) | (with_reducible refine below_al ?_) | ((with_reducible refine below_set ?_ ?_); rotate_left; focus (first | (simp; done) | (simp; omega)))))
  have le_w_w1 : w.heap.size ≤ w1.heap.size := by omega
  try have lt_w_w1 : w.heap.size < w1.heap.size := by omega
  try have lp01_w_w1 : w.heap.size < w1.heap.size + 1 := by omega
  try have lp02_w_w1 : w.heap.size < w1.heap.size + 1 + 1 := by omega
  try have lp03_w_w1 : w.heap.size < w1.heap.size + 1 + 1 + 1 := by omega
  try have lp11_w_w1 : w.heap.size + 1 < w1.heap.size + 1 := by omega
  try have lp12_w_w1 : w.heap.size + 1 < w1.heap.size + 1 + 1 := by omega
  try have lp13_w_w1 : w.heap.size + 1 < w1.heap.size + 1 + 1 + 1 := by omega
  try have lp22_w_w1 : w.heap.size + 1 + 1 < w1.heap.size + 1 + 1 := by omega
  try have lp23_w_w1 : w.heap.size + 1 + 1 < w1.heap.size + 1 + 1 + 1 := by omega
  have s1_w1 : w1.heap.size < w1.heap.size + 1 + 1 := by omega
  have s2_w1 : w1.heap.size < w1.heap.size + 1 + 1 + 1 := by omega
  go_wp2_with fail
  refine (rof_in _ _ _ _ h1 h2 HA _).mono ?_; rintro e w2 ⟨rfl, hb2⟩
  have hz2 := hb2.size; (try simp at hz2); obtain ⟨hc2, hf2⟩ := bcell hb2
  have hB_w_2 := below_step (w := w) hb2 (by repeat (first | (with_reducible assumption) | (with_reducible exact Below.refl _ _) | (with_reducible refine Below.drew ?_) | (with_reducible refine below_drewN' ?_ _) | (with_reducible refine below_al ?_) | ((with_reducible refine below_set ?_ ?_); rotate_left; focus (first | (simp; done) | (simp; omega)))))
  have hB_w1_2 := below_step (w := w1) hb2 (by repeat (first | (with_reducible assumption) | (with_reducible exact Below.refl _ _) | (with_reducible refine Below.drew ?_) | (with_reducible refine below_drewN' ?_ _) | (with_reducible refine below_al ?_) | ((with_reducible refine below_set ?_ ?_); rotate_left; focus (first | (simp; done) | (simp; omega)))))
  have le_w_w2 : w.heap.size ≤ w2.heap.size := by omega
  try have lt_w_w2 : w.heap.size < w2.heap.size := by omega
  try have lp01_w_w2 : w.heap.size < w2.heap.size + 1 := by omega
  try have lp02_w_w2 : w.heap.size < w2.heap.size + 1 + 1 := by omega
  try have lp03_w_w2 : w.heap.size < w2.heap.size + 1 + 1 + 1 := by omega
  try have lp11_w_w2 : w.heap.size + 1 < w2.heap.size + 1 := by omega
  try have lp12_w_w2 : w.heap.size + 1 < w2.heap.size + 1 + 1 := by omega
  try have lp13_w_w2 : w.heap.size + 1 < w2.heap.size + 1 + 1 + 1 := by omega
  try have lp22_w_w2 : w.heap.size + 1 + 1 < w2.heap.size + 1 + 1 := by omega
  try have lp23_w_w2 : w.heap.size + 1 + 1 < w2.heap.size + 1 + 1 + 1 := by omega
  have le_w1_w2 : w1.heap.size ≤ w2.heap.size := by omega
  try have lt_w1_w2 : w1.heap.size < w2.heap.size := by omega
  try have lp01_w1_w2 : w1.heap.size < w2.heap.size + 1 := by omega
  try have lp02_w1_w2 : w1.heap.size < w2.heap.size + 1 + 1 := by omega
  try have lp03_w1_w2 : w1.heap.size < w2.heap.size + 1 + 1 + 1 := by omega
  try have lp11_w1_w2 : w1.heap.size + 1 < w2.heap.size + 1 := by omega
  try have lp12_w1_w2 : w1.heap.size + 1 < w2.heap.size + 1 + 1 := by omega
  try have lp13_w1_w2 : w1.heap.size + 1 < w2.heap.size + 1 + 1 + 1 := by omega
  try have lp22_w1_w2 : w1.heap.size + 1 + 1 < w2.heap.size + 1 + 1 := by omega
  try have lp23_w1_w2 : w1.heap.size + 1 + 1 < w2.heap.size + 1 + 1 + 1 := by omega
  try have le1_w1_w2 : w1.heap.size + 1 ≤ w2.heap.size := by omega
  try have lt1_w1_w2 : w1.heap.size + 1 < w2.heap.size := by omega
  try have le2_w1_w2 : w1.heap.size + 1 + 1 ≤ w2.heap.size := by omega
  try have lt2_w1_w2 : w1.heap.size + 1 + 1 < w2.heap.size := by omega
  have s1_w2 : w2.heap.size < w2.heap.size + 1 + 1 := by omega
  have s2_w2 : w2.heap.size < w2.heap.size + 1 + 1 + 1 := by omega
  go_wp2_with fail
  refine (rof_in _ _ _ _ h3 h4 HB' _).mono ?_; rintro e w3 ⟨rfl, hb3⟩
  have hz3 := hb3.size; (try simp at hz3); obtain ⟨hc3, hf3⟩ := bcell hb3
  have hB_w_3 := below_step (w := w) hb3 (by repeat (first | (with_reducible assumption) | (with_reducible exact Below.refl _ _) | (with_reducible refine Below.drew ?_) | (with_reducible refine below_drewN' ?_ _) | (with_reducible refine below_al ?_) | ((with_reducible refine below_set ?_ ?_); rotate_left; focus (first | (simp; done) | (simp; omega)))))
  have hB_w1_3 := below_step (w := w1) hb3 (by repeat (first | (with_reducible assumption) | (with_reducible exact Below.refl _ _) | (with_reducible refine Below.drew ?_) | (with_reducible refine below_drewN' ?_ _) | (with_reducible refine below_al ?_) | ((with_reducible refine below_set ?_ ?_); rotate_left; focus (first | (simp; done) | (simp; omega)))))
  have hB_w2_3 := below_step (w := w2) hb3 (by repeat (first | (with_reducible assumption) | (with_reducible exact Below.refl _ _) | (with_reducible refine Below.drew ?_) | (with_reducible refine below_drewN' ?_ _) | (with_reducible refine below_al ?_) | ((with_reducible refine below_set ?_ ?_); rotate_left; focus (first | (simp; done) | (simp; omega)))))
  have le_w_w3 : w.heap.size ≤ w3.heap.size := by omega
  try have lt_w_w3 : w.heap.size < w3.heap.size := by omega
  try have lp01_w_w3 : w.heap.size < w3.heap.size + 1 := by omega
  try have lp02_w_w3 : w.heap.size < w3.heap.size + 1 + 1 := by omega
  try have lp03_w_w3 : w.heap.size < w3.heap.size + 1 + 1 + 1 := by omega
  try have lp11_w_w3 : w.heap.size + 1 < w3.heap.size + 1 := by omega
  try have lp12_w_w3 : w.heap.size + 1 < w3.heap.size + 1 + 1 := by omega
  try have lp13_w_w3 : w.heap.size + 1 < w3.heap.size + 1 + 1 + 1 := by omega
  try have lp22_w_w3 : w.heap.size + 1 + 1 < w3.heap.size + 1 + 1 := by omega
  try have lp23_w_w3 : w.heap.size + 1 + 1 < w3.heap.size + 1 + 1 + 1 := by omega
  have le_w1_w3 : w1.heap.size ≤ w3.heap.size := by omega
  try have lt_w1_w3 : w1.heap.size < w3.heap.size := by omega
  try have lp01_w1_w3 : w1.heap.size < w3.heap.size + 1 := by omega
  try have lp02_w1_w3 : w1.heap.size < w3.heap.size + 1 + 1 := by omega
  try have lp03_w1_w3 : w1.heap.size < w3.heap.size + 1 + 1 + 1 := by omega
  try have lp11_w1_w3 : w1.heap.size + 1 < w3.heap.size + 1 := by omega
  try have lp12_w1_w3 : w1.heap.size + 1 < w3.heap.size + 1 + 1 := by omega
  try have lp13_w1_w3 : w1.heap.size + 1 < w3.heap.size + 1 + 1 + 1 := by omega
  try have lp22_w1_w3 : w1.heap.size + 1 + 1 < w3.heap.size + 1 + 1 := by omega
  try have lp23_w1_w3 : w1.heap.size + 1 + 1 < w3.heap.size + 1 + 1 + 1 := by omega
  try have le1_w1_w3 : w1.heap.size + 1 ≤ w3.heap.size := by omega
  try have lt1_w1_w3 : w1.heap.size + 1 < w3.heap.size := by omega
  try have le2_w1_w3 : w1.heap.size + 1 + 1 ≤ w3.heap.size := by omega
  try have lt2_w1_w3 : w1.heap.size + 1 + 1 < w3.heap.size := by omega
  have le_w2_w3 : w2.heap.size ≤ w3.heap.size := by omega
  try have lt_w2_w3 : w2.heap.size < w3.heap.size := by omega
  try have lp01_w2_w3 : w2.heap.size < w3.heap.size + 1 := by omega
  try have lp02_w2_w3 : w2.heap.size < w3.heap.size + 1 + 1 := by omega
  try have lp03_w2_w3 : w2.heap.size < w3.heap.size + 1 + 1 + 1 := by omega
  try have lp11_w2_w3 : w2.heap.size + 1 < w3.heap.size + 1 := by omega
  try have lp12_w2_w3 : w2.heap.size + 1 < w3.heap.size + 1 + 1 := by omega
  try have lp13_w2_w3 : w2.heap.size + 1 < w3.heap.size + 1 + 1 + 1 := by omega
  try have lp22_w2_w3 : w2.heap.size + 1 + 1 < w3.heap.size + 1 + 1 := by omega
  try have lp23_w2_w3 : w2.heap.size + 1 + 1 < w3.heap.size + 1 + 1 + 1 := by omega
  try have le1_w2_w3 : w2.heap.size + 1 ≤ w3.heap.size := by omega
  try have lt1_w2_w3 : w2.heap.size + 1 < w3.heap.size := by omega
  try have le2_w2_w3 : w2.heap.size + 1 + 1 ≤ w3.heap.size := by omega
  try have lt2_w2_w3 : w2.heap.size + 1 + 1 < w3.heap.size := by omega
  have s1_w3 : w3.heap.size < w3.heap.size + 1 + 1 := by omega
  have s2_w3 : w3.heap.size < w3.heap.size + 1 + 1 + 1 := by omega
  go_wp2_with fail
  refine (rlast_c a _).mono ?_; rintro e w4 ⟨rfl, hb4⟩
  have hz4 := hb4.size; (try simp at hz4); obtain ⟨hc4, hf4⟩ := bcell hb4
  have hB_w_4 := below_step (w := w) hb4 (by repeat (first | (with_reducible assumption) | (with_reducible exact Below.refl _ _) | (with_reducible refine Below.drew ?_) | (with_reducible refine below_drewN' ?_ _) | (with_reducible refine below_al ?_) | ((with_reducible refine below_set ?_ ?_); rotate_left; focus (first | (simp; done) | (simp; omega)))))
  have hB_w1_4 := below_step (w := w1) hb4 (by repeat (first | (with_reducible assumption) | (with_reducible exact Below.refl _ _) | (with_reducible refine Below.drew ?_) | (with_reducible refine below_drewN' ?_ _) | (with_reducible refine below_al ?_) | ((with_reducible refine below_set ?_ ?_); rotate_left; focus (first | (simp; done) | (simp; omega)))))
  have hB_w2_4 := below_step (w := w2) hb4 (by repeat (first | (with_reducible assumption) | (with_reducible exact Below.refl _ _) | (with_reducible refine Below.drew ?_) | (with_reducible refine below_drewN' ?_ _) | (with_reducible refine below_al ?_) | ((with_reducible refine below_set ?_ ?_); rotate_left; focus (first | (simp; done) | (simp; omega)))))
  have hB_w3_4 := below_step (w := w3) hb4 (by repeat (first | (with_reducible assumption) | (with_reducible exact Below.refl _ _) | (with_reducible refine Below.drew ?_) | (with_reducible refine below_drewN' ?_ _) | (with_reducible refine below_al ?_) | ((with_reducible refine below_set ?_ ?_); rotate_left; focus (first | (simp; done) | (simp; omega)))))
  have le_w_w4 : w.heap.size ≤ w4.heap.size := by omega
  try have lt_w_w4 : w.heap.size < w4.heap.size := by omega
  try have lp01_w_w4 : w.heap.size < w4.heap.size + 1 := by omega
  try have lp02_w_w4 : w.heap.size < w4.heap.size + 1 + 1 := by omega
  try have lp03_w_w4 : w.heap.size < w4.heap.size + 1 + 1 + 1 := by omega
  try have lp11_w_w4 : w.heap.size + 1 < w4.heap.size + 1 := by omega
  try have lp12_w_w4 : w.heap.size + 1 < w4.heap.size + 1 + 1 := by omega
  try have lp13_w_w4 : w.heap.size + 1 < w4.heap.size + 1 + 1 + 1 := by omega
  try have lp22_w_w4 : w.heap.size + 1 + 1 < w4.heap.size + 1 + 1 := by omega
  try have lp23_w_w4 : w.heap.size + 1 + 1 < w4.heap.size + 1 + 1 + 1 := by omega
  have le_w1_w4 : w1.heap.size ≤ w4.heap.size := by omega
  try have lt_w1_w4 : w1.heap.size < w4.heap.size := by omega
  try have lp01_w1_w4 : w1.heap.size < w4.heap.size + 1 := by omega
  try have lp02_w1_w4 : w1.heap.size < w4.heap.size + 1 + 1 := by omega
  try have lp03_w1_w4 : w1.heap.size < w4.heap.size + 1 + 1 + 1 := by omega
  try have lp11_w1_w4 : w1.heap.size + 1 < w4.heap.size + 1 := by omega
  try have lp12_w1_w4 : w1.heap.size + 1 < w4.heap.size + 1 + 1 := by omega
  try have lp13_w1_w4 : w1.heap.size + 1 < w4.heap.size + 1 + 1 + 1 := by omega
  try have lp22_w1_w4 : w1.heap.size + 1 + 1 < w4.heap.size + 1 + 1 := by omega
  try have lp23_w1_w4 : w1.heap.size + 1 + 1 < w4.heap.size + 1 + 1 + 1 := by omega
  try have le1_w1_w4 : w1.heap.size + 1 ≤ w4.heap.size := by omega
  try have lt1_w1_w4 : w1.heap.size + 1 < w4.heap.size := by omega
  try have le2_w1_w4 : w1.heap.size + 1 + 1 ≤ w4.heap.size := by omega
  try have lt2_w1_w4 : w1.heap.size + 1 + 1 < w4.heap.size := by omega
  have le_w2_w4 : w2.heap.size ≤ w4.heap.size := by omega
  try have lt_w2_w4 : w2.heap.size < w4.heap.size := by omega
  try have lp01_w2_w4 : w2.heap.size < w4.heap.size + 1 := by omega
  try have lp02_w2_w4 : w2.heap.size < w4.heap.size + 1 + 1 := by omega
  try have lp03_w2_w4 : w2.heap.size < w4.heap.size + 1 + 1 + 1 := by omega
  try have lp11_w2_w4 : w2.heap.size + 1 < w4.heap.size + 1 := by omega
  try have lp12_w2_w4 : w2.heap.size + 1 < w4.heap.size + 1 + 1 := by omega
  try have lp13_w2_w4 : w2.heap.size + 1 < w4.heap.size + 1 + 1 + 1 := by omega
  try have lp22_w2_w4 : w2.heap.size + 1 + 1 < w4.heap.size + 1 + 1 := by omega
  try have lp23_w2_w4 : w2.heap.size + 1 + 1 < w4.heap.size + 1 + 1 + 1 := by omega
  try have le1_w2_w4 : w2.heap.size + 1 ≤ w4.heap.size := by omega
  try have lt1_w2_w4 : w2.heap.size + 1 < w4.heap.size := by omega
  try have le2_w2_w4 : w2.heap.size + 1 + 1 ≤ w4.heap.size := by omega
  try have lt2_w2_w4 : w2.heap.size + 1 + 1 < w4.heap.size := by omega
  have le_w3_w4 : w3.heap.size ≤ w4.heap.size := by omega
  try have lt_w3_w4 : w3.heap.size < w4.heap.size := by omega
  try have lp01_w3_w4 : w3.heap.size < w4.heap.size + 1 := by omega
  try have lp02_w3_w4 : w3.heap.size < w4.heap.size + 1 + 1 := by omega
  try have lp03_w3_w4 : w3.heap.size < w4.heap.size + 1 + 1 + 1 := by omega
  try have lp11_w3_w4 : w3.heap.size + 1 < w4.heap.size + 1 := by omega
  try have lp12_w3_w4 : w3.heap.size + 1 < w4.heap.size + 1 + 1 := by omega
  try have lp13_w3_w4 : w3.heap.size + 1 < w4.heap.size + 1 + 1 + 1 := by omega
  try have lp22_w3_w4 : w3.heap.size + 1 + 1 < w4.heap.size + 1 + 1 := by omega
  try have lp23_w3_w4 : w3.heap.size + 1 + 1 < w4.heap.size + 1 + 1 + 1 := by omega
  try have le1_w3_w4 : w3.heap.size + 1 ≤ w4.heap.size := by omega
  try have lt1_w3_w4 : w3.heap.size + 1 < w4.heap.size := by omega
  try have le2_w3_w4 : w3.heap.size + 1 + 1 ≤ w4.heap.size := by omega
  try have lt2_w3_w4 : w3.heap.size + 1 + 1 < w4.heap.size := by omega
  have s1_w4 : w4.heap.size < w4.heap.size + 1 + 1 := by omega
  have s2_w4 : w4.heap.size < w4.heap.size + 1 + 1 + 1 := by omega
  rw [HL.out.1]
  go_wp2_with fail
  refine (rlast_c b _).mono ?_; rintro e w5 ⟨rfl, hb5⟩
  have hz5 := hb5.size; (try simp at hz5); obtain ⟨hc5, hf5⟩ := bcell hb5
  have hB_w_5 := below_step (w := w) hb5 (by repeat (first | (with_reducible assumption) | (with_reducible exact Below.refl _ _) | (with_reducible refine Below.drew ?_) | (with_reducible refine below_drewN' ?_ _) | (with_reducible refine below_al ?_) | ((with_reducible refine below_set ?_ ?_); rotate_left; focus (first | (simp; done) | (simp; omega)))))
  have hB_w1_5 := below_step (w := w1) hb5 (by repeat (first | (with_reducible assumption) | (with_reducible exact Below.refl _ _) | (with_reducible refine Below.drew ?_) | (with_reducible refine below_drewN' ?_ _) | (with_reducible refine below_al ?_) | ((with_reducible refine below_set ?_ ?_); rotate_left; focus (first | (simp; done) | (simp; omega)))))
  have hB_w2_5 := below_step (w := w2) hb5 (by repeat (first | (with_reducible assumption) | (with_reducible exact Below.refl _ _) | (with_reducible refine Below.drew ?_) | (with_reducible refine below_drewN' ?_ _) | (with_reducible refine below_al ?_) | ((with_reducible refine below_set ?_ ?_); rotate_left; focus (first | (simp; done) | (simp; omega)))))
  have hB_w3_5 := below_step (w := w3) hb5 (by repeat (first | (with_reducible assumption) | (with_reducible exact Below.refl _ _) | (with_reducible refine Below.drew ?_) | (with_reducible refine below_drewN' ?_ _) | (with_reducible refine below_al ?_) | ((with_reducible refine below_set ?_ ?_); rotate_left; focus (first | (simp; done) | (simp; omega)))))
  have hB_w4_5 := below_step (w := w4) hb5 (by repeat (first | (with_reducible assumption) | (with_reducible exact Below.refl _ _) | (with_reducible refine Below.drew ?_) | (with_reducible refine below_drewN' ?_ _) | (with_reducible refine below_al ?_) | ((with_reducible refine below_set ?_ ?_); rotate_left; focus (first | (simp; done) | (simp; omega)))))
  have le_w_w5 : w.heap.size ≤ w5.heap.size := by omega
  try have lt_w_w5 : w.heap.size < w5.heap.size := by omega
  try have lp01_w_w5 : w.heap.size < w5.heap.size + 1 := by omega
  try have lp02_w_w5 : w.heap.size < w5.heap.size + 1 + 1 := by omega
  try have lp03_w_w5 : w.heap.size < w5.heap.size + 1 + 1 + 1 := by omega
  try have lp11_w_w5 : w.heap.size + 1 < w5.heap.size + 1 := by omega
  try have lp12_w_w5 : w.heap.size + 1 < w5.heap.size + 1 + 1 := by omega
  try have lp13_w_w5 : w.heap.size + 1 < w5.heap.size + 1 + 1 + 1 := by omega
  try have lp22_w_w5 : w.heap.size + 1 + 1 < w5.heap.size + 1 + 1 := by omega
  try have lp23_w_w5 : w.heap.size + 1 + 1 < w5.heap.size + 1 + 1 + 1 := by omega
  have le_w1_w5 : w1.heap.size ≤ w5.heap.size := by omega
  try have lt_w1_w5 : w1.heap.size < w5.heap.size := by omega
  try have lp01_w1_w5 : w1.heap.size < w5.heap.size + 1 := by omega
  try have lp02_w1_w5 : w1.heap.size < w5.heap.size + 1 + 1 := by omega
  try have lp03_w1_w5 : w1.heap.size < w5.heap.size + 1 + 1 + 1 := by omega
  try have lp11_w1_w5 : w1.heap.size + 1 < w5.heap.size + 1 := by omega
  try have lp12_w1_w5 : w1.heap.size + 1 < w5.heap.size + 1 + 1 := by omega
  try have lp13_w1_w5 : w1.heap.size + 1 < w5.heap.size + 1 + 1 + 1 := by omega
  try have lp22_w1_w5 : w1.heap.size + 1 + 1 < w5.heap.size + 1 + 1 := by omega
  try have lp23_w1_w5 : w1.heap.size + 1 + 1 < w5.heap.size + 1 + 1 + 1 := by omega
  try have le1_w1_w5 : w1.heap.size + 1 ≤ w5.heap.size := by omega
  try have lt1_w1_w5 : w1.heap.size + 1 < w5.heap.size := by omega
  try have le2_w1_w5 : w1.heap.size + 1 + 1 ≤ w5.heap.size := by omega
  try have lt2_w1_w5 : w1.heap.size + 1 + 1 < w5.heap.size := by omega
  have le_w2_w5 : w2.heap.size ≤ w5.heap.size := by omega
  try have lt_w2_w5 : w2.heap.size < w5.heap.size := by omega
  try have lp01_w2_w5 : w2.heap.size < w5.heap.size + 1 := by omega
  try have lp02_w2_w5 : w2.heap.size < w5.heap.size + 1 + 1 := by omega
  try have lp03_w2_w5 : w2.heap.size < w5.heap.size + 1 + 1 + 1 := by omega
  try have lp11_w2_w5 : w2.heap.size + 1 < w5.heap.size + 1 := by omega
  try have lp12_w2_w5 : w2.heap.size + 1 < w5.heap.size + 1 + 1 := by omega
  try have lp13_w2_w5 : w2.heap.size + 1 < w5.heap.size + 1 + 1 + 1 := by omega
  try have lp22_w2_w5 : w2.heap.size + 1 + 1 < w5.heap.size + 1 + 1 := by omega
  try have lp23_w2_w5 : w2.heap.size + 1 + 1 < w5.heap.size + 1 + 1 + 1 := by omega
  try have le1_w2_w5 : w2.heap.size + 1 ≤ w5.heap.size := by omega
  try have lt1_w2_w5 : w2.heap.size + 1 < w5.heap.size := by omega
  try have le2_w2_w5 : w2.heap.size + 1 + 1 ≤ w5.heap.size := by omega
  try have lt2_w2_w5 : w2.heap.size + 1 + 1 < w5.heap.size := by omega
  have le_w3_w5 : w3.heap.size ≤ w5.heap.size := by omega
  try have lt_w3_w5 : w3.heap.size < w5.heap.size := by omega
  try have lp01_w3_w5 : w3.heap.size < w5.heap.size + 1 := by omega
  try have lp02_w3_w5 : w3.heap.size < w5.heap.size + 1 + 1 := by omega
  try have lp03_w3_w5 : w3.heap.size < w5.heap.size + 1 + 1 + 1 := by omega
  try have lp11_w3_w5 : w3.heap.size + 1 < w5.heap.size + 1 := by omega
  try have lp12_w3_w5 : w3.heap.size + 1 < w5.heap.size + 1 + 1 := by omega
  try have lp13_w3_w5 : w3.heap.size + 1 < w5.heap.size + 1 + 1 + 1 := by omega
  try have lp22_w3_w5 : w3.heap.size + 1 + 1 < w5.heap.size + 1 + 1 := by omega
  try have lp23_w3_w5 : w3.heap.size + 1 + 1 < w5.heap.size + 1 + 1 + 1 := by omega
  try have le1_w3_w5 : w3.heap.size + 1 ≤ w5.heap.size := by omega
  try have lt1_w3_w5 : w3.heap.size + 1 < w5.heap.size := by omega
  try have le2_w3_w5 : w3.heap.size + 1 + 1 ≤ w5.heap.size := by omega
  try have lt2_w3_w5 : w3.heap.size + 1 + 1 < w5.heap.size := by omega
  have le_w4_w5 : w4.heap.size ≤ w5.heap.size := by omega
  try have lt_w4_w5 : w4.heap.size < w5.heap.size := by omega
  try have lp01_w4_w5 : w4.heap.size < w5.heap.size + 1 := by omega
  try have lp02_w4_w5 : w4.heap.size < w5.heap.size + 1 + 1 := by omega
  try have lp03_w4_w5 : w4.heap.size < w5.heap.size + 1 + 1 + 1 := by omega
  try have lp11_w4_w5 : w4.heap.size + 1 < w5.heap.size + 1 := by omega
  try have lp12_w4_w5 : w4.heap.size + 1 < w5.heap.size + 1 + 1 := by omega
  try have lp13_w4_w5 : w4.heap.size + 1 < w5.heap.size + 1 + 1 + 1 := by omega
  try have lp22_w4_w5 : w4.heap.size + 1 + 1 < w5.heap.size + 1 + 1 := by omega
  try have lp23_w4_w5 : w4.heap.size + 1 + 1 < w5.heap.size + 1 + 1 + 1 := by omega
  try have le1_w4_w5 : w4.heap.size + 1 ≤ w5.heap.size := by omega
  try have lt1_w4_w5 : w4.heap.size + 1 < w5.heap.size := by omega
  try have le2_w4_w5 : w4.heap.size + 1 + 1 ≤ w5.heap.size := by omega
  try have lt2_w4_w5 : w4.heap.size + 1 + 1 < w5.heap.size := by omega
  have s1_w5 : w5.heap.size < w5.heap.size + 1 + 1 := by omega
  have s2_w5 : w5.heap.size < w5.heap.size + 1 + 1 + 1 := by omega
  rw [HL.out.2]
  have r0 := below_some hB_w1_5 _ _ _ (below_some hb1 _ _ _ (cell_nu (k := w.heap.size) (i := 0) rfl rfl))
  have r1 := below_some hB_w1_5 _ _ _ (below_some hb1 _ _ _ (cell_nu (k := w.heap.size) (i := 1) rfl rfl))
  have s0 := (hB_w1_5.frozen (p := ⟨w.heap.size, 0, none⟩) lt_w_w1).trans ((hb1.frozen (p := ⟨w.heap.size, 0, none⟩) (by simp)).trans (blk_free (blk_nu rfl)))
  have s1 := (hB_w1_5.frozen (p := ⟨w.heap.size, 1, none⟩) lt_w_w1).trans ((hb1.frozen (p := ⟨w.heap.size, 1, none⟩) (by simp)).trans (blk_free (blk_nu rfl)))
  cases l1 <;> cases l2 <;> cases k1 : (b == x) <;> cases k2 : (m2 == 2)
  all_goals
    go_wp2_with fail
    refine (dpart_c _ _ _ _ _ _ _ _ N nn ?_ ?_ HM hnn _).mono ?_
    · obtain ⟨a1, a2, a3, a4, a5, a6, a7, a8, a9, aa, ab, ac⟩ := HY.out; (try simp only [beq_iff_eq, beq_eq_false_iff_ne] at k0); (try simp only [beq_iff_eq, beq_eq_false_iff_ne] at k1); (try simp only [beq_iff_eq, beq_eq_false_iff_ne] at k2); exact ⟨a1, a2, a3, a4, a5, a6, a7, a8, by omega, by omega, by omega, by omega⟩
    · obtain ⟨a1, a2, a3, a4, a5, a6, a7, a8, a9, aa, ab, ac⟩ := HY.out; refine Lib.hid ?_; have h := HN.out; clear HN HY; simp [ix, en, k1, k2] at h; omega
    rintro e wz ⟨rfl, hbz⟩
    have hBz := below_step (w := w) hbz (by repeat (first | (with_reducible assumption) | (with_reducible exact Below.refl _ _) | (with_reducible refine Below.drew ?_) | (with_reducible refine below_drewN' ?_ _) | (with_reducible refine below_al ?_) | ((with_reducible refine below_set ?_ ?_); rotate_left; focus (first | (simp; done) | (simp; omega)))))
    have hRz := below_step (w := w5) hbz (by repeat (first | (with_reducible assumption) | (with_reducible exact Below.refl _ _) | (with_reducible refine Below.drew ?_) | (with_reducible refine below_drewN' ?_ _) | (with_reducible refine below_al ?_) | ((with_reducible refine below_set ?_ ?_); rotate_left; focus (first | (simp; done) | (simp; omega)))))
    have t0 := below_some hRz _ _ _ r0
    have t1 := below_some hRz _ _ _ r1
    have u0 := (hRz.frozen (p := ⟨w.heap.size, 0, none⟩) lt_w_w5).trans s0
    have u1 := (hRz.frozen (p := ⟨w.heap.size, 1, none⟩) lt_w_w5).trans s1
    go_wp2_with fail
    refine bodyPost_ret (v := .tuple #[.agg #[.int .i64 (Thi.rN nn 360), .int .i64 (Thi.rD nn 360)], .int .i64 0]) (by simp [results, Tryd.results35, go_sem, t0, t1]) rfl ⟨rfl, ?_⟩
    exact below_set (below_set hBz (Nat.le_refl _)) (Nat.le_refl _)
set_option maxHeartbeats 8000000 in
theorem dus_ok (a b y1 m1 d1 y2 m2 d2 N : Int) (l1 l2 : Bool) (nn : Nat) (eom f1 f2 : Bool) (HF : Hid ((l1 && (m1 == 2)) = f1 ∧ (l2 && (m2 == 2)) = f2)) (h1 : 1 ≤ a) (h2 : a ≤ 3652059) (h3 : 1 ≤ b) (h4 : b ≤ 3652059) (hab : ¬ b < a) (HA : Hid (Cal.yOf a = y1 ∧ Cal.mOf a = m1 ∧ Cal.dOf a = d1)) (HB' : Hid (Cal.yOf b = y2 ∧ Cal.mOf b = m2 ∧ Cal.dOf b = d2)) (HL : Hid (Mon.lastB a = l1 ∧ Mon.lastB b = l2)) (hy : 1 ≤ y1 ∧ y1 ≤ 9999 ∧ 1 ≤ y2 ∧ y2 ≤ 9999 ∧ 1 ≤ m1 ∧ m1 ≤ 12 ∧ 1 ≤ m2 ∧ m2 ≤ 12 ∧ 1 ≤ d1 ∧ d1 ≤ 31 ∧ 1 ≤ d2 ∧ d2 ≤ 31) (HN : Hid (360 * (y2 - y1) + 30 * (m2 - m1) + (x2 eom f1 f2 d1 d2 - min (v1 eom f1 d1) 30) = N)) (HM : Hid (max 0 N = (nn : Int))) (hnn : nn ≤ 4000000)  (w : World) :
    Calls Tryd.prog 31 #[.int .i64 a, .int .i64 b, .bool eom] w fun e w' => e = .returned (.tuple #[.agg #[.int .i64 (Thi.rN nn 360), .int .i64 (Thi.rD nn 360)], .int .i64 0]) ∧ Below w.heap.size w w' := by
  have HD := Lib.hid (And.intro (dayB_in h1 h2) (dayB_in h3 h4))
  have HY := Lib.hid hy
  clear hy
  have hB : Below w.heap.size w w := Below.refl _ _
  go_enter Tryd.func31, Tryd.ntmps31
  go_wp2_with fail
  refine (why_k a b HD.out.1 HD.out.2 (by omega) _).mono ?_; rintro e w1 ⟨rfl, hb1⟩
  have hz1 := hb1.size; (try simp at hz1); obtain ⟨hc1, hf1⟩ := bcell hb1
  have hB_w_1 := below_step (w := w) hb1 (by repeat (first | (with_reducible assumption) | (with_reducible exact Below.refl _ _) | (with_reducible refine Below.drew ?_) | (with_reducible refine below_drewN' ?_ _) | (with_reducible refine below_al ?_) | ((with_reducible refine below_set ?_ ?_); rotate_left; focus (first | (simp; done) | (simp; omega)))))
  have le_w_w1 : w.heap.size ≤ w1.heap.size := by omega
  try have lt_w_w1 : w.heap.size < w1.heap.size := by omega
  try have lp01_w_w1 : w.heap.size < w1.heap.size + 1 := by omega
  try have lp02_w_w1 : w.heap.size < w1.heap.size + 1 + 1 := by omega
  try have lp03_w_w1 : w.heap.size < w1.heap.size + 1 + 1 + 1 := by omega
  try have lp11_w_w1 : w.heap.size + 1 < w1.heap.size + 1 := by omega
  try have lp12_w_w1 : w.heap.size + 1 < w1.heap.size + 1 + 1 := by omega
  try have lp13_w_w1 : w.heap.size + 1 < w1.heap.size + 1 + 1 + 1 := by omega
  try have lp22_w_w1 : w.heap.size + 1 + 1 < w1.heap.size + 1 + 1 := by omega
  try have lp23_w_w1 : w.heap.size + 1 + 1 < w1.heap.size + 1 + 1 + 1 := by omega
  have s1_w1 : w1.heap.size < w1.heap.size + 1 + 1 := by omega
  have s2_w1 : w1.heap.size < w1.heap.size + 1 + 1 + 1 := by omega
  go_wp2_with fail
  refine (rof_in _ _ _ _ h1 h2 HA _).mono ?_; rintro e w2 ⟨rfl, hb2⟩
  have hz2 := hb2.size; (try simp at hz2); obtain ⟨hc2, hf2⟩ := bcell hb2
  have hB_w_2 := below_step (w := w) hb2 (by repeat (first | (with_reducible assumption) | (with_reducible exact Below.refl _ _) | (with_reducible refine Below.drew ?_) | (with_reducible refine below_drewN' ?_ _) | (with_reducible refine below_al ?_) | ((with_reducible refine below_set ?_ ?_); rotate_left; focus (first | (simp; done) | (simp; omega)))))
  have hB_w1_2 := below_step (w := w1) hb2 (by repeat (first | (with_reducible assumption) | (with_reducible exact Below.refl _ _) | (with_reducible refine Below.drew ?_) | (with_reducible refine below_drewN' ?_ _) | (with_reducible refine below_al ?_) | ((with_reducible refine below_set ?_ ?_); rotate_left; focus (first | (simp; done) | (simp; omega)))))
  have le_w_w2 : w.heap.size ≤ w2.heap.size := by omega
  try have lt_w_w2 : w.heap.size < w2.heap.size := by omega
  try have lp01_w_w2 : w.heap.size < w2.heap.size + 1 := by omega
  try have lp02_w_w2 : w.heap.size < w2.heap.size + 1 + 1 := by omega
  try have lp03_w_w2 : w.heap.size < w2.heap.size + 1 + 1 + 1 := by omega
  try have lp11_w_w2 : w.heap.size + 1 < w2.heap.size + 1 := by omega
  try have lp12_w_w2 : w.heap.size + 1 < w2.heap.size + 1 + 1 := by omega
  try have lp13_w_w2 : w.heap.size + 1 < w2.heap.size + 1 + 1 + 1 := by omega
  try have lp22_w_w2 : w.heap.size + 1 + 1 < w2.heap.size + 1 + 1 := by omega
  try have lp23_w_w2 : w.heap.size + 1 + 1 < w2.heap.size + 1 + 1 + 1 := by omega
  have le_w1_w2 : w1.heap.size ≤ w2.heap.size := by omega
  try have lt_w1_w2 : w1.heap.size < w2.heap.size := by omega
  try have lp01_w1_w2 : w1.heap.size < w2.heap.size + 1 := by omega
  try have lp02_w1_w2 : w1.heap.size < w2.heap.size + 1 + 1 := by omega
  try have lp03_w1_w2 : w1.heap.size < w2.heap.size + 1 + 1 + 1 := by omega
  try have lp11_w1_w2 : w1.heap.size + 1 < w2.heap.size + 1 := by omega
  try have lp12_w1_w2 : w1.heap.size + 1 < w2.heap.size + 1 + 1 := by omega
  try have lp13_w1_w2 : w1.heap.size + 1 < w2.heap.size + 1 + 1 + 1 := by omega
  try have lp22_w1_w2 : w1.heap.size + 1 + 1 < w2.heap.size + 1 + 1 := by omega
  try have lp23_w1_w2 : w1.heap.size + 1 + 1 < w2.heap.size + 1 + 1 + 1 := by omega
  try have le1_w1_w2 : w1.heap.size + 1 ≤ w2.heap.size := by omega
  try have lt1_w1_w2 : w1.heap.size + 1 < w2.heap.size := by omega
  try have le2_w1_w2 : w1.heap.size + 1 + 1 ≤ w2.heap.size := by omega
  try have lt2_w1_w2 : w1.heap.size + 1 + 1 < w2.heap.size := by omega
  have s1_w2 : w2.heap.size < w2.heap.size + 1 + 1 := by omega
  have s2_w2 : w2.heap.size < w2.heap.size + 1 + 1 + 1 := by omega
  go_wp2_with fail
  refine (rof_in _ _ _ _ h3 h4 HB' _).mono ?_; rintro e w3 ⟨rfl, hb3⟩
  have hz3 := hb3.size; (try simp at hz3); obtain ⟨hc3, hf3⟩ := bcell hb3
  have hB_w_3 := below_step (w := w) hb3 (by repeat (first | (with_reducible assumption) | (with_reducible exact Below.refl _ _) | (with_reducible refine Below.drew ?_) | (with_reducible refine below_drewN' ?_ _) | (with_reducible refine below_al ?_) | ((with_reducible refine below_set ?_ ?_); rotate_left; focus (first | (simp; done) | (simp; omega)))))
  have hB_w1_3 := below_step (w := w1) hb3 (by repeat (first | (with_reducible assumption) | (with_reducible exact Below.refl _ _) | (with_reducible refine Below.drew ?_) | (with_reducible refine below_drewN' ?_ _) | (with_reducible refine below_al ?_) | ((with_reducible refine below_set ?_ ?_); rotate_left; focus (first | (simp; done) | (simp; omega)))))
  have hB_w2_3 := below_step (w := w2) hb3 (by repeat (first | (with_reducible assumption) | (with_reducible exact Below.refl _ _) | (with_reducible refine Below.drew ?_) | (with_reducible refine below_drewN' ?_ _) | (with_reducible refine below_al ?_) | ((with_reducible refine below_set ?_ ?_); rotate_left; focus (first | (simp; done) | (simp; omega)))))
  have le_w_w3 : w.heap.size ≤ w3.heap.size := by omega
  try have lt_w_w3 : w.heap.size < w3.heap.size := by omega
  try have lp01_w_w3 : w.heap.size < w3.heap.size + 1 := by omega
  try have lp02_w_w3 : w.heap.size < w3.heap.size + 1 + 1 := by omega
  try have lp03_w_w3 : w.heap.size < w3.heap.size + 1 + 1 + 1 := by omega
  try have lp11_w_w3 : w.heap.size + 1 < w3.heap.size + 1 := by omega
  try have lp12_w_w3 : w.heap.size + 1 < w3.heap.size + 1 + 1 := by omega
  try have lp13_w_w3 : w.heap.size + 1 < w3.heap.size + 1 + 1 + 1 := by omega
  try have lp22_w_w3 : w.heap.size + 1 + 1 < w3.heap.size + 1 + 1 := by omega
  try have lp23_w_w3 : w.heap.size + 1 + 1 < w3.heap.size + 1 + 1 + 1 := by omega
  have le_w1_w3 : w1.heap.size ≤ w3.heap.size := by omega
  try have lt_w1_w3 : w1.heap.size < w3.heap.size := by omega
  try have lp01_w1_w3 : w1.heap.size < w3.heap.size + 1 := by omega
  try have lp02_w1_w3 : w1.heap.size < w3.heap.size + 1 + 1 := by omega
  try have lp03_w1_w3 : w1.heap.size < w3.heap.size + 1 + 1 + 1 := by omega
  try have lp11_w1_w3 : w1.heap.size + 1 < w3.heap.size + 1 := by omega
  try have lp12_w1_w3 : w1.heap.size + 1 < w3.heap.size + 1 + 1 := by omega
  try have lp13_w1_w3 : w1.heap.size + 1 < w3.heap.size + 1 + 1 + 1 := by omega
  try have lp22_w1_w3 : w1.heap.size + 1 + 1 < w3.heap.size + 1 + 1 := by omega
  try have lp23_w1_w3 : w1.heap.size + 1 + 1 < w3.heap.size + 1 + 1 + 1 := by omega
  try have le1_w1_w3 : w1.heap.size + 1 ≤ w3.heap.size := by omega
  try have lt1_w1_w3 : w1.heap.size + 1 < w3.heap.size := by omega
  try have le2_w1_w3 : w1.heap.size + 1 + 1 ≤ w3.heap.size := by omega
  try have lt2_w1_w3 : w1.heap.size + 1 + 1 < w3.heap.size := by omega
  have le_w2_w3 : w2.heap.size ≤ w3.heap.size := by omega
  try have lt_w2_w3 : w2.heap.size < w3.heap.size := by omega
  try have lp01_w2_w3 : w2.heap.size < w3.heap.size + 1 := by omega
  try have lp02_w2_w3 : w2.heap.size < w3.heap.size + 1 + 1 := by omega
  try have lp03_w2_w3 : w2.heap.size < w3.heap.size + 1 + 1 + 1 := by omega
  try have lp11_w2_w3 : w2.heap.size + 1 < w3.heap.size + 1 := by omega
  try have lp12_w2_w3 : w2.heap.size + 1 < w3.heap.size + 1 + 1 := by omega
  try have lp13_w2_w3 : w2.heap.size + 1 < w3.heap.size + 1 + 1 + 1 := by omega
  try have lp22_w2_w3 : w2.heap.size + 1 + 1 < w3.heap.size + 1 + 1 := by omega
  try have lp23_w2_w3 : w2.heap.size + 1 + 1 < w3.heap.size + 1 + 1 + 1 := by omega
  try have le1_w2_w3 : w2.heap.size + 1 ≤ w3.heap.size := by omega
  try have lt1_w2_w3 : w2.heap.size + 1 < w3.heap.size := by omega
  try have le2_w2_w3 : w2.heap.size + 1 + 1 ≤ w3.heap.size := by omega
  try have lt2_w2_w3 : w2.heap.size + 1 + 1 < w3.heap.size := by omega
  have s1_w3 : w3.heap.size < w3.heap.size + 1 + 1 := by omega
  have s2_w3 : w3.heap.size < w3.heap.size + 1 + 1 + 1 := by omega
  go_wp2_with fail
  refine (dfeb_c a _ _ _ l1 f1 HL.out.1 HF.out.1 _).mono ?_; rintro e w4 ⟨rfl, hb4⟩
  have hz4 := hb4.size; (try simp at hz4); obtain ⟨hc4, hf4⟩ := bcell hb4
  have hB_w_4 := below_step (w := w) hb4 (by repeat (first | (with_reducible assumption) | (with_reducible exact Below.refl _ _) | (with_reducible refine Below.drew ?_) | (with_reducible refine below_drewN' ?_ _) | (with_reducible refine below_al ?_) | ((with_reducible refine below_set ?_ ?_); rotate_left; focus (first | (simp; done) | (simp; omega)))))
  have hB_w1_4 := below_step (w := w1) hb4 (by repeat (first | (with_reducible assumption) | (with_reducible exact Below.refl _ _) | (with_reducible refine Below.drew ?_) | (with_reducible refine below_drewN' ?_ _) | (with_reducible refine below_al ?_) | ((with_reducible refine below_set ?_ ?_); rotate_left; focus (first | (simp; done) | (simp; omega)))))
  have hB_w2_4 := below_step (w := w2) hb4 (by repeat (first | (with_reducible assumption) | (with_reducible exact Below.refl _ _) | (with_reducible refine Below.drew ?_) | (with_reducible refine below_drewN' ?_ _) | (with_reducible refine below_al ?_) | ((with_reducible refine below_set ?_ ?_); rotate_left; focus (first | (simp; done) | (simp; omega)))))
  have hB_w3_4 := below_step (w := w3) hb4 (by repeat (first | (with_reducible assumption) | (with_reducible exact Below.refl _ _) | (with_reducible refine Below.drew ?_) | (with_reducible refine below_drewN' ?_ _) | (with_reducible refine below_al ?_) | ((with_reducible refine below_set ?_ ?_); rotate_left; focus (first | (simp; done) | (simp; omega)))))
  have le_w_w4 : w.heap.size ≤ w4.heap.size := by omega
  try have lt_w_w4 : w.heap.size < w4.heap.size := by omega
  try have lp01_w_w4 : w.heap.size < w4.heap.size + 1 := by omega
  try have lp02_w_w4 : w.heap.size < w4.heap.size + 1 + 1 := by omega
  try have lp03_w_w4 : w.heap.size < w4.heap.size + 1 + 1 + 1 := by omega
  try have lp11_w_w4 : w.heap.size + 1 < w4.heap.size + 1 := by omega
  try have lp12_w_w4 : w.heap.size + 1 < w4.heap.size + 1 + 1 := by omega
  try have lp13_w_w4 : w.heap.size + 1 < w4.heap.size + 1 + 1 + 1 := by omega
  try have lp22_w_w4 : w.heap.size + 1 + 1 < w4.heap.size + 1 + 1 := by omega
  try have lp23_w_w4 : w.heap.size + 1 + 1 < w4.heap.size + 1 + 1 + 1 := by omega
  have le_w1_w4 : w1.heap.size ≤ w4.heap.size := by omega
  try have lt_w1_w4 : w1.heap.size < w4.heap.size := by omega
  try have lp01_w1_w4 : w1.heap.size < w4.heap.size + 1 := by omega
  try have lp02_w1_w4 : w1.heap.size < w4.heap.size + 1 + 1 := by omega
  try have lp03_w1_w4 : w1.heap.size < w4.heap.size + 1 + 1 + 1 := by omega
  try have lp11_w1_w4 : w1.heap.size + 1 < w4.heap.size + 1 := by omega
  try have lp12_w1_w4 : w1.heap.size + 1 < w4.heap.size + 1 + 1 := by omega
  try have lp13_w1_w4 : w1.heap.size + 1 < w4.heap.size + 1 + 1 + 1 := by omega
  try have lp22_w1_w4 : w1.heap.size + 1 + 1 < w4.heap.size + 1 + 1 := by omega
  try have lp23_w1_w4 : w1.heap.size + 1 + 1 < w4.heap.size + 1 + 1 + 1 := by omega
  try have le1_w1_w4 : w1.heap.size + 1 ≤ w4.heap.size := by omega
  try have lt1_w1_w4 : w1.heap.size + 1 < w4.heap.size := by omega
  try have le2_w1_w4 : w1.heap.size + 1 + 1 ≤ w4.heap.size := by omega
  try have lt2_w1_w4 : w1.heap.size + 1 + 1 < w4.heap.size := by omega
  have le_w2_w4 : w2.heap.size ≤ w4.heap.size := by omega
  try have lt_w2_w4 : w2.heap.size < w4.heap.size := by omega
  try have lp01_w2_w4 : w2.heap.size < w4.heap.size + 1 := by omega
  try have lp02_w2_w4 : w2.heap.size < w4.heap.size + 1 + 1 := by omega
  try have lp03_w2_w4 : w2.heap.size < w4.heap.size + 1 + 1 + 1 := by omega
  try have lp11_w2_w4 : w2.heap.size + 1 < w4.heap.size + 1 := by omega
  try have lp12_w2_w4 : w2.heap.size + 1 < w4.heap.size + 1 + 1 := by omega
  try have lp13_w2_w4 : w2.heap.size + 1 < w4.heap.size + 1 + 1 + 1 := by omega
  try have lp22_w2_w4 : w2.heap.size + 1 + 1 < w4.heap.size + 1 + 1 := by omega
  try have lp23_w2_w4 : w2.heap.size + 1 + 1 < w4.heap.size + 1 + 1 + 1 := by omega
  try have le1_w2_w4 : w2.heap.size + 1 ≤ w4.heap.size := by omega
  try have lt1_w2_w4 : w2.heap.size + 1 < w4.heap.size := by omega
  try have le2_w2_w4 : w2.heap.size + 1 + 1 ≤ w4.heap.size := by omega
  try have lt2_w2_w4 : w2.heap.size + 1 + 1 < w4.heap.size := by omega
  have le_w3_w4 : w3.heap.size ≤ w4.heap.size := by omega
  try have lt_w3_w4 : w3.heap.size < w4.heap.size := by omega
  try have lp01_w3_w4 : w3.heap.size < w4.heap.size + 1 := by omega
  try have lp02_w3_w4 : w3.heap.size < w4.heap.size + 1 + 1 := by omega
  try have lp03_w3_w4 : w3.heap.size < w4.heap.size + 1 + 1 + 1 := by omega
  try have lp11_w3_w4 : w3.heap.size + 1 < w4.heap.size + 1 := by omega
  try have lp12_w3_w4 : w3.heap.size + 1 < w4.heap.size + 1 + 1 := by omega
  try have lp13_w3_w4 : w3.heap.size + 1 < w4.heap.size + 1 + 1 + 1 := by omega
  try have lp22_w3_w4 : w3.heap.size + 1 + 1 < w4.heap.size + 1 + 1 := by omega
  try have lp23_w3_w4 : w3.heap.size + 1 + 1 < w4.heap.size + 1 + 1 + 1 := by omega
  try have le1_w3_w4 : w3.heap.size + 1 ≤ w4.heap.size := by omega
  try have lt1_w3_w4 : w3.heap.size + 1 < w4.heap.size := by omega
  try have le2_w3_w4 : w3.heap.size + 1 + 1 ≤ w4.heap.size := by omega
  try have lt2_w3_w4 : w3.heap.size + 1 + 1 < w4.heap.size := by omega
  have s1_w4 : w4.heap.size < w4.heap.size + 1 + 1 := by omega
  have s2_w4 : w4.heap.size < w4.heap.size + 1 + 1 + 1 := by omega
  go_wp2_with fail
  refine (dfeb_c b _ _ _ l2 f2 HL.out.2 HF.out.2 _).mono ?_; rintro e w5 ⟨rfl, hb5⟩
  have hz5 := hb5.size; (try simp at hz5); obtain ⟨hc5, hf5⟩ := bcell hb5
  have hB_w_5 := below_step (w := w) hb5 (by repeat (first | (with_reducible assumption) | (with_reducible exact Below.refl _ _) | (with_reducible refine Below.drew ?_) | (with_reducible refine below_drewN' ?_ _) | (with_reducible refine below_al ?_) | ((with_reducible refine below_set ?_ ?_); rotate_left; focus (first | (simp; done) | (simp; omega)))))
  have hB_w1_5 := below_step (w := w1) hb5 (by repeat (first | (with_reducible assumption) | (with_reducible exact Below.refl _ _) | (with_reducible refine Below.drew ?_) | (with_reducible refine below_drewN' ?_ _) | (with_reducible refine below_al ?_) | ((with_reducible refine below_set ?_ ?_); rotate_left; focus (first | (simp; done) | (simp; omega)))))
  have hB_w2_5 := below_step (w := w2) hb5 (by repeat (first | (with_reducible assumption) | (with_reducible exact Below.refl _ _) | (with_reducible refine Below.drew ?_) | (with_reducible refine below_drewN' ?_ _) | (with_reducible refine below_al ?_) | ((with_reducible refine below_set ?_ ?_); rotate_left; focus (first | (simp; done) | (simp; omega)))))
  have hB_w3_5 := below_step (w := w3) hb5 (by repeat (first | (with_reducible assumption) | (with_reducible exact Below.refl _ _) | (with_reducible refine Below.drew ?_) | (with_reducible refine below_drewN' ?_ _) | (with_reducible refine below_al ?_) | ((with_reducible refine below_set ?_ ?_); rotate_left; focus (first | (simp; done) | (simp; omega)))))
  have hB_w4_5 := below_step (w := w4) hb5 (by repeat (first | (with_reducible assumption) | (with_reducible exact Below.refl _ _) | (with_reducible refine Below.drew ?_) | (with_reducible refine below_drewN' ?_ _) | (with_reducible refine below_al ?_) | ((with_reducible refine below_set ?_ ?_); rotate_left; focus (first | (simp; done) | (simp; omega)))))
  have le_w_w5 : w.heap.size ≤ w5.heap.size := by omega
  try have lt_w_w5 : w.heap.size < w5.heap.size := by omega
  try have lp01_w_w5 : w.heap.size < w5.heap.size + 1 := by omega
  try have lp02_w_w5 : w.heap.size < w5.heap.size + 1 + 1 := by omega
  try have lp03_w_w5 : w.heap.size < w5.heap.size + 1 + 1 + 1 := by omega
  try have lp11_w_w5 : w.heap.size + 1 < w5.heap.size + 1 := by omega
  try have lp12_w_w5 : w.heap.size + 1 < w5.heap.size + 1 + 1 := by omega
  try have lp13_w_w5 : w.heap.size + 1 < w5.heap.size + 1 + 1 + 1 := by omega
  try have lp22_w_w5 : w.heap.size + 1 + 1 < w5.heap.size + 1 + 1 := by omega
  try have lp23_w_w5 : w.heap.size + 1 + 1 < w5.heap.size + 1 + 1 + 1 := by omega
  have le_w1_w5 : w1.heap.size ≤ w5.heap.size := by omega
  try have lt_w1_w5 : w1.heap.size < w5.heap.size := by omega
  try have lp01_w1_w5 : w1.heap.size < w5.heap.size + 1 := by omega
  try have lp02_w1_w5 : w1.heap.size < w5.heap.size + 1 + 1 := by omega
  try have lp03_w1_w5 : w1.heap.size < w5.heap.size + 1 + 1 + 1 := by omega
  try have lp11_w1_w5 : w1.heap.size + 1 < w5.heap.size + 1 := by omega
  try have lp12_w1_w5 : w1.heap.size + 1 < w5.heap.size + 1 + 1 := by omega
  try have lp13_w1_w5 : w1.heap.size + 1 < w5.heap.size + 1 + 1 + 1 := by omega
  try have lp22_w1_w5 : w1.heap.size + 1 + 1 < w5.heap.size + 1 + 1 := by omega
  try have lp23_w1_w5 : w1.heap.size + 1 + 1 < w5.heap.size + 1 + 1 + 1 := by omega
  try have le1_w1_w5 : w1.heap.size + 1 ≤ w5.heap.size := by omega
  try have lt1_w1_w5 : w1.heap.size + 1 < w5.heap.size := by omega
  try have le2_w1_w5 : w1.heap.size + 1 + 1 ≤ w5.heap.size := by omega
  try have lt2_w1_w5 : w1.heap.size + 1 + 1 < w5.heap.size := by omega
  have le_w2_w5 : w2.heap.size ≤ w5.heap.size := by omega
  try have lt_w2_w5 : w2.heap.size < w5.heap.size := by omega
  try have lp01_w2_w5 : w2.heap.size < w5.heap.size + 1 := by omega
  try have lp02_w2_w5 : w2.heap.size < w5.heap.size + 1 + 1 := by omega
  try have lp03_w2_w5 : w2.heap.size < w5.heap.size + 1 + 1 + 1 := by omega
  try have lp11_w2_w5 : w2.heap.size + 1 < w5.heap.size + 1 := by omega
  try have lp12_w2_w5 : w2.heap.size + 1 < w5.heap.size + 1 + 1 := by omega
  try have lp13_w2_w5 : w2.heap.size + 1 < w5.heap.size + 1 + 1 + 1 := by omega
  try have lp22_w2_w5 : w2.heap.size + 1 + 1 < w5.heap.size + 1 + 1 := by omega
  try have lp23_w2_w5 : w2.heap.size + 1 + 1 < w5.heap.size + 1 + 1 + 1 := by omega
  try have le1_w2_w5 : w2.heap.size + 1 ≤ w5.heap.size := by omega
  try have lt1_w2_w5 : w2.heap.size + 1 < w5.heap.size := by omega
  try have le2_w2_w5 : w2.heap.size + 1 + 1 ≤ w5.heap.size := by omega
  try have lt2_w2_w5 : w2.heap.size + 1 + 1 < w5.heap.size := by omega
  have le_w3_w5 : w3.heap.size ≤ w5.heap.size := by omega
  try have lt_w3_w5 : w3.heap.size < w5.heap.size := by omega
  try have lp01_w3_w5 : w3.heap.size < w5.heap.size + 1 := by omega
  try have lp02_w3_w5 : w3.heap.size < w5.heap.size + 1 + 1 := by omega
  try have lp03_w3_w5 : w3.heap.size < w5.heap.size + 1 + 1 + 1 := by omega
  try have lp11_w3_w5 : w3.heap.size + 1 < w5.heap.size + 1 := by omega
  try have lp12_w3_w5 : w3.heap.size + 1 < w5.heap.size + 1 + 1 := by omega
  try have lp13_w3_w5 : w3.heap.size + 1 < w5.heap.size + 1 + 1 + 1 := by omega
  try have lp22_w3_w5 : w3.heap.size + 1 + 1 < w5.heap.size + 1 + 1 := by omega
  try have lp23_w3_w5 : w3.heap.size + 1 + 1 < w5.heap.size + 1 + 1 + 1 := by omega
  try have le1_w3_w5 : w3.heap.size + 1 ≤ w5.heap.size := by omega
  try have lt1_w3_w5 : w3.heap.size + 1 < w5.heap.size := by omega
  try have le2_w3_w5 : w3.heap.size + 1 + 1 ≤ w5.heap.size := by omega
  try have lt2_w3_w5 : w3.heap.size + 1 + 1 < w5.heap.size := by omega
  have le_w4_w5 : w4.heap.size ≤ w5.heap.size := by omega
  try have lt_w4_w5 : w4.heap.size < w5.heap.size := by omega
  try have lp01_w4_w5 : w4.heap.size < w5.heap.size + 1 := by omega
  try have lp02_w4_w5 : w4.heap.size < w5.heap.size + 1 + 1 := by omega
  try have lp03_w4_w5 : w4.heap.size < w5.heap.size + 1 + 1 + 1 := by omega
  try have lp11_w4_w5 : w4.heap.size + 1 < w5.heap.size + 1 := by omega
  try have lp12_w4_w5 : w4.heap.size + 1 < w5.heap.size + 1 + 1 := by omega
  try have lp13_w4_w5 : w4.heap.size + 1 < w5.heap.size + 1 + 1 + 1 := by omega
  try have lp22_w4_w5 : w4.heap.size + 1 + 1 < w5.heap.size + 1 + 1 := by omega
  try have lp23_w4_w5 : w4.heap.size + 1 + 1 < w5.heap.size + 1 + 1 + 1 := by omega
  try have le1_w4_w5 : w4.heap.size + 1 ≤ w5.heap.size := by omega
  try have lt1_w4_w5 : w4.heap.size + 1 < w5.heap.size := by omega
  try have le2_w4_w5 : w4.heap.size + 1 + 1 ≤ w5.heap.size := by omega
  try have lt2_w4_w5 : w4.heap.size + 1 + 1 < w5.heap.size := by omega
  have s1_w5 : w5.heap.size < w5.heap.size + 1 + 1 := by omega
  have s2_w5 : w5.heap.size < w5.heap.size + 1 + 1 + 1 := by omega
  have r0 := below_some hB_w1_5 _ _ _ (below_some hb1 _ _ _ (cell_nu (k := w.heap.size) (i := 0) rfl rfl))
  have r1 := below_some hB_w1_5 _ _ _ (below_some hb1 _ _ _ (cell_nu (k := w.heap.size) (i := 1) rfl rfl))
  have s0 := (hB_w1_5.frozen (p := ⟨w.heap.size, 0, none⟩) lt_w_w1).trans ((hb1.frozen (p := ⟨w.heap.size, 0, none⟩) (by simp)).trans (blk_free (blk_nu rfl)))
  have s1 := (hB_w1_5.frozen (p := ⟨w.heap.size, 1, none⟩) lt_w_w1).trans ((hb1.frozen (p := ⟨w.heap.size, 1, none⟩) (by simp)).trans (blk_free (blk_nu rfl)))
  have Q : (eom = false) ∨ (eom = true ∧ f1 = false) ∨ (eom = true ∧ f1 = true ∧ f2 = false) ∨ (eom = true ∧ f1 = true ∧ f2 = true) := by cases eom <;> cases f1 <;> cases f2 <;> simp
  have Q2 : ((d2 == 31) = false ∧ (d1 == 31) = false) ∨ ((d2 == 31) = false ∧ (d1 == 31) = true) ∨ ((d2 == 31) = true ∧ (d1 == 30) = true ∧ (d1 == 31) = false) ∨ ((d2 == 31) = true ∧ (d1 == 30) = false ∧ (d1 == 31) = true) ∨ ((d2 == 31) = true ∧ (d1 == 30) = false ∧ (d1 == 31) = false) := by
    simp only [beq_iff_eq, beq_eq_false_iff_ne]; omega
  rcases Q2 with ⟨k2, k1⟩ | ⟨k2, k1⟩ | ⟨k2, k0, k1⟩ | ⟨k2, k0, k1⟩ | ⟨k2, k0, k1⟩
  all_goals rcases Q with rfl | ⟨rfl, rfl⟩ | ⟨rfl, rfl, rfl⟩ | ⟨rfl, rfl, rfl⟩
  all_goals
    go_wp2_with fail
    refine (dpart_c _ _ _ _ _ _ _ _ N nn ?_ ?_ HM hnn _).mono ?_
    · obtain ⟨a1, a2, a3, a4, a5, a6, a7, a8, a9, aa, ab, ac⟩ := HY.out; (try simp only [beq_iff_eq, beq_eq_false_iff_ne] at k0); (try simp only [beq_iff_eq, beq_eq_false_iff_ne] at k1); (try simp only [beq_iff_eq, beq_eq_false_iff_ne] at k2); exact ⟨a1, a2, a3, a4, a5, a6, a7, a8, by omega, by omega, by omega, by omega⟩
    · obtain ⟨a1, a2, a3, a4, a5, a6, a7, a8, a9, aa, ab, ac⟩ := HY.out; refine Lib.hid ?_; have h := HN.out; clear HN HY; (try simp only [beq_iff_eq, beq_eq_false_iff_ne] at k0); simp only [beq_iff_eq, beq_eq_false_iff_ne] at k1 k2; simp [x2, v1, v2] at h; (try split at h) <;> omega
    rintro e wz ⟨rfl, hbz⟩
    have hBz := below_step (w := w) hbz (by repeat (first | (with_reducible assumption) | (with_reducible exact Below.refl _ _) | (with_reducible refine Below.drew ?_) | (with_reducible refine below_drewN' ?_ _) | (with_reducible refine below_al ?_) | ((with_reducible refine below_set ?_ ?_); rotate_left; focus (first | (simp; done) | (simp; omega)))))
    have hRz := below_step (w := w5) hbz (by repeat (first | (with_reducible assumption) | (with_reducible exact Below.refl _ _) | (with_reducible refine Below.drew ?_) | (with_reducible refine below_drewN' ?_ _) | (with_reducible refine below_al ?_) | ((with_reducible refine below_set ?_ ?_); rotate_left; focus (first | (simp; done) | (simp; omega)))))
    have t0 := below_some hRz _ _ _ r0
    have t1 := below_some hRz _ _ _ r1
    have u0 := (hRz.frozen (p := ⟨w.heap.size, 0, none⟩) lt_w_w5).trans s0
    have u1 := (hRz.frozen (p := ⟨w.heap.size, 1, none⟩) lt_w_w5).trans s1
    go_wp2_with fail
    refine bodyPost_ret (v := .tuple #[.agg #[.int .i64 (Thi.rN nn 360), .int .i64 (Thi.rD nn 360)], .int .i64 0]) (by simp [results, Tryd.results31, go_sem, t0, t1]) rfl ⟨rfl, ?_⟩
    exact below_set (below_set hBz (Nat.le_refl _)) (Nat.le_refl _)
end Go.Proofs.YtjcjchapfiokeaaDoor
