/- Months of 30 days, the program's: the three ways, as plain counts. Conditions: the table of months' lengths lies as the program's text lays it. -/
import Derived.Test.YtjcjchapfiokeaaDoorThiC
namespace Go.Proofs.YtjcjchapfiokeaaDoor
open Go.RowKit
set_option linter.unusedVariables false
set_option linter.unusedSimpArgs false
namespace Thi
open Cal
/-- The code of two days, and their fraction. -/
def prE (a b : Int) : Int := if 1 ≤ a ∧ a ≤ 3652059 ∧ 1 ≤ b ∧ b ≤ 3652059 then (if a ≤ b then 0 else 4) else 3
def prN (N a b : Int) : Int := if prE a b = 0 then rN (max 0 N).toNat 360 else 0
def prD (N a b : Int) : Int := if prE a b = 0 then rD (max 0 N).toNat 360 else 0
theorem pr_ok {a b : Int} (N : Int) (h1 : 1 ≤ a) (h2 : a ≤ 3652059) (h3 : 1 ≤ b) (h4 : b ≤ 3652059) (h : a ≤ b) : prE a b = 0 ∧ prN N a b = rN (max 0 N).toNat 360 ∧ prD N a b = rD (max 0 N).toNat 360 := by
  have e : prE a b = 0 := by unfold prE; rw [if_pos ⟨h1, h2, h3, h4⟩, if_pos h]
  unfold prN prD; rw [e]; exact ⟨rfl, rfl, rfl⟩
theorem pr_order {a b : Int} (N : Int) (h1 : 1 ≤ a) (h2 : a ≤ 3652059) (h3 : 1 ≤ b) (h4 : b ≤ 3652059) (h : b < a) : prE a b = 4 ∧ prN N a b = 0 ∧ prD N a b = 0 := by
  have e : prE a b = 4 := by unfold prE; rw [if_pos ⟨h1, h2, h3, h4⟩, if_neg (by omega)]
  unfold prN prD; rw [e]; exact ⟨rfl, rfl, rfl⟩
theorem pr_none {a b : Int} (N : Int) (h : ¬ (1 ≤ a ∧ a ≤ 3652059 ∧ 1 ≤ b ∧ b ≤ 3652059)) : prE a b = 3 ∧ prN N a b = 0 ∧ prD N a b = 0 := by
  have e : prE a b = 3 := by unfold prE; rw [if_neg h]
  unfold prN prD; rw [e]; exact ⟨rfl, rfl, rfl⟩
theorem fe_l {n : Int} (h1 : 1 ≤ n) (h2 : n ≤ 3652059) : (Mon.lastB n && (mOf n == 2)) = fe n := by rw [Mon.lastB_in h1 h2]; rfl
theorem i1_l {n : Int} (h1 : 1 ≤ n) (h2 : n ≤ 3652059) : en (Mon.lastB n) (dOf n) = i1 n := by rw [Mon.lastB_in h1 h2]; rfl
theorem i2_l {b x : Int} (h1 : 1 ≤ b) (h2 : b ≤ 3652059) : ix b x (mOf b) (Mon.lastB b) (dOf b) = i2 b x := by
  rw [Mon.lastB_in h1 h2]; unfold ix i2 en
  cases (b == x) <;> cases (mOf b == 2) <;> cases Mon.isEnd b <;> rfl
end Thi
theorem part_us_c (a b : Int) (eom : Bool) (be : Nat) (w : World) (he : w.cell? ⟨be, 0, none⟩ = some (.bool eom)) (hL : Laid w) : Calls Tryd.prog 57 #[.int .i64 a, .int .i64 b, .func (.func 58) #[] #[.pointer (some ⟨be, 0, none⟩)]] w fun e w' => e = .returned (.tuple #[.agg #[.int .i64 (Thi.prN (Thi.usN a b eom) a b), .int .i64 (Thi.prD (Thi.usN a b eom) a b)], .int .i64 (Thi.prE a b)]) ∧ Below w.heap.size w w' := by
  by_cases ha : 1 ≤ a ∧ a ≤ 3652059
  · by_cases hb : 1 ≤ b ∧ b ≤ 3652059
    · by_cases hab : b < a
      · obtain ⟨e1, e2, e3⟩ := Thi.pr_order (Thi.usN a b eom) ha.1 ha.2 hb.1 hb.2 hab
        rw [e1, e2, e3]; exact part_o a b _ ha.1 ha.2 hb.1 hb.2 hab w hL
      · obtain ⟨e1, e2, e3⟩ := Thi.pr_ok (Thi.usN a b eom) ha.1 ha.2 hb.1 hb.2 (by omega)
        rw [e1, e2, e3]
        have da := Cal.day_of a ha.1 ha.2; have db := Cal.day_of b hb.1 hb.2
        have t1 := Thi.u1_bd (eom := eom) ha.1 ha.2; have t2 := Thi.u2_bd (a := a) (eom := eom) hb.1 hb.2; have t3 := Thi.us_bd (eom := eom) ha.1 hb.2 (by omega : a ≤ b)
        have t4 : 0 ≤ (if 30 ≤ Thi.u1 a eom then min (Thi.u2 a b eom) 30 else Thi.u2 a b eom) ∧ (if 30 ≤ Thi.u1 a eom then min (Thi.u2 a b eom) 30 else Thi.u2 a b eom) ≤ 100 := by split <;> omega
        exact part_us a b (Cal.yOf a) (Cal.mOf a) (Cal.dOf a) (Cal.yOf b) (Cal.mOf b) (Cal.dOf b) (min (Thi.u1 a eom) 30) (if 30 ≤ Thi.u1 a eom then min (Thi.u2 a b eom) 30 else Thi.u2 a b eom) (Mon.lastB a) (Mon.lastB b) (max 0 (Thi.usN a b eom)).toNat eom (Thi.fe a) (Thi.fe b) (Lib.hid ⟨Thi.fe_l ha.1 ha.2, Thi.fe_l hb.1 hb.2⟩) be ha.1 ha.2 hb.1 hb.2 hab (Lib.hid ⟨rfl, rfl, rfl, rfl⟩) (Lib.hid ⟨rfl, rfl, rfl, rfl⟩) ⟨da.y1, da.y2, db.y1, db.y2, da.m1, da.m2, db.m1, db.m2, by omega, by omega, by omega, by omega⟩ (Lib.hid ⟨rfl, rfl⟩) (Thi.usN a b eom) (Lib.hid rfl) (Lib.hid (by omega)) (by omega) w he hL
    · obtain ⟨e1, e2, e3⟩ := Thi.pr_none (Thi.usN a b eom) (show ¬ (1 ≤ a ∧ a ≤ 3652059 ∧ 1 ≤ b ∧ b ≤ 3652059) by omega)
      rw [e1, e2, e3]; exact part_b a b _ ha.1 ha.2 (Lib.hid (by omega)) w hL
  · obtain ⟨e1, e2, e3⟩ := Thi.pr_none (Thi.usN a b eom) (show ¬ (1 ≤ a ∧ a ≤ 3652059 ∧ 1 ≤ b ∧ b ≤ 3652059) by omega)
    rw [e1, e2, e3]; exact part_a a b _ (Lib.hid (by omega)) w hL
theorem part_e_c (a b : Int) (bx : Nat) (w : World) (he : w.cell? ⟨bx, 0, none⟩ = some (.func (.func 60) #[] #[])) (hL : Laid w) : Calls Tryd.prog 57 #[.int .i64 a, .int .i64 b, .func (.func 82) #[] #[.pointer (some ⟨bx, 0, none⟩)]] w fun e w' => e = .returned (.tuple #[.agg #[.int .i64 (Thi.prN (Thi.eN a b) a b), .int .i64 (Thi.prD (Thi.eN a b) a b)], .int .i64 (Thi.prE a b)]) ∧ Below w.heap.size w w' := by
  by_cases ha : 1 ≤ a ∧ a ≤ 3652059
  · by_cases hb : 1 ≤ b ∧ b ≤ 3652059
    · by_cases hab : b < a
      · obtain ⟨e1, e2, e3⟩ := Thi.pr_order (Thi.eN a b) ha.1 ha.2 hb.1 hb.2 hab
        rw [e1, e2, e3]; exact part_o a b _ ha.1 ha.2 hb.1 hb.2 hab w hL
      · obtain ⟨e1, e2, e3⟩ := Thi.pr_ok (Thi.eN a b) ha.1 ha.2 hb.1 hb.2 (by omega)
        rw [e1, e2, e3]
        have da := Cal.day_of a ha.1 ha.2; have db := Cal.day_of b hb.1 hb.2
        have t1 := Thi.d_bd ha.1 ha.2; have t2 := Thi.d_bd hb.1 hb.2; have t3 := Thi.e_bd ha.1 hb.2 (by omega : a ≤ b)
        exact part_e a b (Cal.yOf a) (Cal.mOf a) (Cal.dOf a) (Cal.yOf b) (Cal.mOf b) (Cal.dOf b) (min (Cal.dOf a) 30) (min (Cal.dOf b) 30) (Mon.lastB a) (Mon.lastB b) (max 0 (Thi.eN a b)).toNat bx ha.1 ha.2 hb.1 hb.2 hab (Lib.hid ⟨rfl, rfl, rfl, rfl⟩) (Lib.hid ⟨rfl, rfl, rfl, rfl⟩) ⟨da.y1, da.y2, db.y1, db.y2, da.m1, da.m2, db.m1, db.m2, by omega, by omega, by omega, by omega⟩ (Lib.hid ⟨rfl, rfl⟩) (Thi.eN a b) (Lib.hid rfl) (Lib.hid (by omega)) (by omega) w he hL
    · obtain ⟨e1, e2, e3⟩ := Thi.pr_none (Thi.eN a b) (show ¬ (1 ≤ a ∧ a ≤ 3652059 ∧ 1 ≤ b ∧ b ≤ 3652059) by omega)
      rw [e1, e2, e3]; exact part_b a b _ ha.1 ha.2 (Lib.hid (by omega)) w hL
  · obtain ⟨e1, e2, e3⟩ := Thi.pr_none (Thi.eN a b) (show ¬ (1 ≤ a ∧ a ≤ 3652059 ∧ 1 ≤ b ∧ b ≤ 3652059) by omega)
    rw [e1, e2, e3]; exact part_a a b _ (Lib.hid (by omega)) w hL
theorem part_is_c (a b : Int) (x : Int) (pb px : Nat) (w : World) (he : w.cell? ⟨pb, 0, none⟩ = some (.int .i64 b)) (hx : w.cell? ⟨px, 0, none⟩ = some (.int .i64 x)) (hL : Laid w) : Calls Tryd.prog 57 #[.int .i64 a, .int .i64 b, .func (.func 65) #[] #[.pointer (some ⟨pb, 0, none⟩), .pointer (some ⟨px, 0, none⟩)]] w fun e w' => e = .returned (.tuple #[.agg #[.int .i64 (Thi.prN (Thi.isN a b x) a b), .int .i64 (Thi.prD (Thi.isN a b x) a b)], .int .i64 (Thi.prE a b)]) ∧ Below w.heap.size w w' := by
  by_cases ha : 1 ≤ a ∧ a ≤ 3652059
  · by_cases hb : 1 ≤ b ∧ b ≤ 3652059
    · by_cases hab : b < a
      · obtain ⟨e1, e2, e3⟩ := Thi.pr_order (Thi.isN a b x) ha.1 ha.2 hb.1 hb.2 hab
        rw [e1, e2, e3]; exact part_o a b _ ha.1 ha.2 hb.1 hb.2 hab w hL
      · obtain ⟨e1, e2, e3⟩ := Thi.pr_ok (Thi.isN a b x) ha.1 ha.2 hb.1 hb.2 (by omega)
        rw [e1, e2, e3]
        have da := Cal.day_of a ha.1 ha.2; have db := Cal.day_of b hb.1 hb.2
        have t1 := Thi.i1_bd ha.1 ha.2; have t2 := Thi.i2_bd (e := x) hb.1 hb.2; have t3 := Thi.is_bd (e := x) ha.1 hb.2 (by omega : a ≤ b)
        exact part_is a b (Cal.yOf a) (Cal.mOf a) (Cal.dOf a) (Cal.yOf b) (Cal.mOf b) (Cal.dOf b) (Thi.i1 a) (Thi.i2 b x) (Mon.lastB a) (Mon.lastB b) (max 0 (Thi.isN a b x)).toNat x pb px ha.1 ha.2 hb.1 hb.2 hab (Lib.hid ⟨rfl, rfl, rfl, rfl⟩) (Lib.hid ⟨rfl, rfl, rfl, rfl⟩) ⟨da.y1, da.y2, db.y1, db.y2, da.m1, da.m2, db.m1, db.m2, by omega, by omega, by omega, by omega⟩ (Lib.hid ⟨Thi.i1_l ha.1 ha.2, Thi.i2_l hb.1 hb.2⟩) (Thi.isN a b x) (Lib.hid rfl) (Lib.hid (by omega)) (by omega) w he hx hL
    · obtain ⟨e1, e2, e3⟩ := Thi.pr_none (Thi.isN a b x) (show ¬ (1 ≤ a ∧ a ≤ 3652059 ∧ 1 ≤ b ∧ b ≤ 3652059) by omega)
      rw [e1, e2, e3]; exact part_b a b _ ha.1 ha.2 (Lib.hid (by omega)) w hL
  · obtain ⟨e1, e2, e3⟩ := Thi.pr_none (Thi.isN a b x) (show ¬ (1 ≤ a ∧ a ≤ 3652059 ∧ 1 ≤ b ∧ b ≤ 3652059) by omega)
    rw [e1, e2, e3]; exact part_a a b _ (Lib.hid (by omega)) w hL
set_option maxHeartbeats 2000000 in
theorem tus_c (a b : Int) (eom : Bool) (w : World) (hL : Laid w) : Calls Tryd.prog 30 #[.int .i64 a, .int .i64 b, .bool eom] w fun e w' => e = .returned (.tuple #[.agg #[.int .i64 (Thi.prN (Thi.usN a b eom) a b), .int .i64 (Thi.prD (Thi.usN a b eom) a b)], .int .i64 (Thi.prE a b)]) ∧ Below w.heap.size w w' := by
  have hB : Below w.heap.size w w := Below.refl _ _
  go_enter Tryd.func30, Tryd.ntmps30
  skip
  go_wp2_with fail
  refine (part_us_c a b eom _ _ (cell_al (cell_nu rfl rfl)) (hL.below (by repeat (first | (with_reducible assumption) | (with_reducible exact Below.refl _ _) | (with_reducible refine Below.drew ?_) | (with_reducible refine below_drewN' ?_ _) | (with_reducible refine below_al ?_) | ((with_reducible refine below_set ?_ ?_); rotate_left; focus (first | (simp; done) | (simp; omega))))))).mono ?_; rintro e w1 ⟨rfl, hb1⟩
  have hz1 := hb1.size; (try simp at hz1); obtain ⟨hc1, hf1⟩ := bcell hb1
  have hB_w_1 := below_step (w := w) hb1 (by repeat (first | (with_reducible assumption) | (with_reducible exact Below.refl _ _) | (with_reducible refine Below.drew ?_) | (with_reducible refine below_drewN' ?_ _) | (with_reducible refine below_al ?_) | ((with_reducible refine below_set ?_ ?_); rotate_left; focus (first | (simp; done) | (simp; omega)))))
  have le_w_w1 : w.heap.size ≤ w1.heap.size := by omega
  try have lt_w_w1 : w.heap.size < w1.heap.size := by omega
  try have lp01_w_w1 : w.heap.size < w1.heap.size + 1 := by omega
  try have lp02_w_w1 : w.heap.size < w1.heap.size + 1 + 1 := by omega
  try have lp03_w_w1 : w.heap.size < w1.heap.size + 1 + 1 + 1 := by omega
  try have lp11_w_w1 : w.heap.size + 1 < w1.heap.size + 1 := by omega
  try have lp12_w_w1 : w.heap.size + 1 < w1.heap.size + 1 + 1 := by omega
  try have lp13_w_w1 : w.heap.size + 1 < w1.heap.size + 1 + 1 + 1 := by omega
  try have lp22_w_w1 : w.heap.size + 1 + 1 < w1.heap.size + 1 + 1 := by omega
  try have lp23_w_w1 : w.heap.size + 1 + 1 < w1.heap.size + 1 + 1 + 1 := by omega
  try have le1_w_w1 : w.heap.size + 1 ≤ w1.heap.size := by omega
  try have lt1_w_w1 : w.heap.size + 1 < w1.heap.size := by omega
  try have le2_w_w1 : w.heap.size + 1 + 1 ≤ w1.heap.size := by omega
  try have lt2_w_w1 : w.heap.size + 1 + 1 < w1.heap.size := by omega
  have s1_w1 : w1.heap.size < w1.heap.size + 1 + 1 := by omega
  have s2_w1 : w1.heap.size < w1.heap.size + 1 + 1 + 1 := by omega
  have g0 := below_some hb1 _ _ _ (cell_nu (k := w.heap.size + 1) (i := 0) (by simp) rfl)
  have g1 := below_some hb1 _ _ _ (cell_nu (k := w.heap.size + 1) (i := 1) (by simp) rfl)
  go_wp2_with fail
  refine bodyPost_ret (v := .tuple #[.agg #[.int .i64 (Thi.prN (Thi.usN a b eom) a b), .int .i64 (Thi.prD (Thi.usN a b eom) a b)], .int .i64 (Thi.prE a b)]) (by simp [results, Tryd.results30, go_sem, g0, g1]) rfl ⟨rfl, ?_⟩
  exact below_set (below_set hB_w_1 (by simp; try omega)) (by simp; try omega)
set_option maxHeartbeats 2000000 in
theorem te_c (a b : Int)  (w : World) (hL : Laid w) : Calls Tryd.prog 32 #[.int .i64 a, .int .i64 b] w fun e w' => e = .returned (.tuple #[.agg #[.int .i64 (Thi.prN (Thi.eN a b) a b), .int .i64 (Thi.prD (Thi.eN a b) a b)], .int .i64 (Thi.prE a b)]) ∧ Below w.heap.size w w' := by
  have hB : Below w.heap.size w w := Below.refl _ _
  go_enter Tryd.func32, Tryd.ntmps32
  go_wp2_with fail
  refine (both_c _ _).mono ?_; rintro e w' ⟨rfl, tt, rfl⟩
  go_wp2_with fail
  refine (part_e_c a b _ _ (cell_nu (by simp) rfl) (hL.below (by repeat (first | (with_reducible assumption) | (with_reducible exact Below.refl _ _) | (with_reducible refine Below.drew ?_) | (with_reducible refine below_drewN' ?_ _) | (with_reducible refine below_al ?_) | ((with_reducible refine below_set ?_ ?_); rotate_left; focus (first | (simp; done) | (simp; omega))))))).mono ?_; rintro e w1 ⟨rfl, hb1⟩
  have hz1 := hb1.size; (try simp at hz1); obtain ⟨hc1, hf1⟩ := bcell hb1
  have hB_w_1 := below_step (w := w) hb1 (by repeat (first | (with_reducible assumption) | (with_reducible exact Below.refl _ _) | (with_reducible refine Below.drew ?_) | (with_reducible refine below_drewN' ?_ _) | (with_reducible refine below_al ?_) | ((with_reducible refine below_set ?_ ?_); rotate_left; focus (first | (simp; done) | (simp; omega)))))
  have le_w_w1 : w.heap.size ≤ w1.heap.size := by omega
  try have lt_w_w1 : w.heap.size < w1.heap.size := by omega
  try have lp01_w_w1 : w.heap.size < w1.heap.size + 1 := by omega
  try have lp02_w_w1 : w.heap.size < w1.heap.size + 1 + 1 := by omega
  try have lp03_w_w1 : w.heap.size < w1.heap.size + 1 + 1 + 1 := by omega
  try have lp11_w_w1 : w.heap.size + 1 < w1.heap.size + 1 := by omega
  try have lp12_w_w1 : w.heap.size + 1 < w1.heap.size + 1 + 1 := by omega
  try have lp13_w_w1 : w.heap.size + 1 < w1.heap.size + 1 + 1 + 1 := by omega
  try have lp22_w_w1 : w.heap.size + 1 + 1 < w1.heap.size + 1 + 1 := by omega
  try have lp23_w_w1 : w.heap.size + 1 + 1 < w1.heap.size + 1 + 1 + 1 := by omega
  try have le1_w_w1 : w.heap.size + 1 ≤ w1.heap.size := by omega
  try have lt1_w_w1 : w.heap.size + 1 < w1.heap.size := by omega
  try have le2_w_w1 : w.heap.size + 1 + 1 ≤ w1.heap.size := by omega
  try have lt2_w_w1 : w.heap.size + 1 + 1 < w1.heap.size := by omega
  have s1_w1 : w1.heap.size < w1.heap.size + 1 + 1 := by omega
  have s2_w1 : w1.heap.size < w1.heap.size + 1 + 1 + 1 := by omega
  have g0 := below_some hb1 _ _ _ (cell_al (cell_nu (k := w.heap.size) (i := 0) rfl rfl))
  have g1 := below_some hb1 _ _ _ (cell_al (cell_nu (k := w.heap.size) (i := 1) rfl rfl))
  go_wp2_with fail
  refine bodyPost_ret (v := .tuple #[.agg #[.int .i64 (Thi.prN (Thi.eN a b) a b), .int .i64 (Thi.prD (Thi.eN a b) a b)], .int .i64 (Thi.prE a b)]) (by simp [results, Tryd.results32, go_sem, g0, g1]) rfl ⟨rfl, ?_⟩
  exact below_set (below_set hB_w_1 (by simp; try omega)) (by simp; try omega)
set_option maxHeartbeats 2000000 in
theorem tis_c (a b : Int) (x : Int) (w : World) (hL : Laid w) : Calls Tryd.prog 34 #[.int .i64 a, .int .i64 b, .int .i64 x] w fun e w' => e = .returned (.tuple #[.agg #[.int .i64 (Thi.prN (Thi.isN a b x) a b), .int .i64 (Thi.prD (Thi.isN a b x) a b)], .int .i64 (Thi.prE a b)]) ∧ Below w.heap.size w w' := by
  have hB : Below w.heap.size w w := Below.refl _ _
  go_enter Tryd.func34, Tryd.ntmps34
  skip
  go_wp2_with fail
  refine (part_is_c a b x _ _ _ (cell_al (cell_al (cell_nu rfl rfl))) (cell_al (cell_nu (by simp) rfl)) (hL.below (by repeat (first | (with_reducible assumption) | (with_reducible exact Below.refl _ _) | (with_reducible refine Below.drew ?_) | (with_reducible refine below_drewN' ?_ _) | (with_reducible refine below_al ?_) | ((with_reducible refine below_set ?_ ?_); rotate_left; focus (first | (simp; done) | (simp; omega))))))).mono ?_; rintro e w1 ⟨rfl, hb1⟩
  have hz1 := hb1.size; (try simp at hz1); obtain ⟨hc1, hf1⟩ := bcell hb1
  have hB_w_1 := below_step (w := w) hb1 (by repeat (first | (with_reducible assumption) | (with_reducible exact Below.refl _ _) | (with_reducible refine Below.drew ?_) | (with_reducible refine below_drewN' ?_ _) | (with_reducible refine below_al ?_) | ((with_reducible refine below_set ?_ ?_); rotate_left; focus (first | (simp; done) | (simp; omega)))))
  have le_w_w1 : w.heap.size ≤ w1.heap.size := by omega
  try have lt_w_w1 : w.heap.size < w1.heap.size := by omega
  try have lp01_w_w1 : w.heap.size < w1.heap.size + 1 := by omega
  try have lp02_w_w1 : w.heap.size < w1.heap.size + 1 + 1 := by omega
  try have lp03_w_w1 : w.heap.size < w1.heap.size + 1 + 1 + 1 := by omega
  try have lp11_w_w1 : w.heap.size + 1 < w1.heap.size + 1 := by omega
  try have lp12_w_w1 : w.heap.size + 1 < w1.heap.size + 1 + 1 := by omega
  try have lp13_w_w1 : w.heap.size + 1 < w1.heap.size + 1 + 1 + 1 := by omega
  try have lp22_w_w1 : w.heap.size + 1 + 1 < w1.heap.size + 1 + 1 := by omega
  try have lp23_w_w1 : w.heap.size + 1 + 1 < w1.heap.size + 1 + 1 + 1 := by omega
  try have le1_w_w1 : w.heap.size + 1 ≤ w1.heap.size := by omega
  try have lt1_w_w1 : w.heap.size + 1 < w1.heap.size := by omega
  try have le2_w_w1 : w.heap.size + 1 + 1 ≤ w1.heap.size := by omega
  try have lt2_w_w1 : w.heap.size + 1 + 1 < w1.heap.size := by omega
  have s1_w1 : w1.heap.size < w1.heap.size + 1 + 1 := by omega
  have s2_w1 : w1.heap.size < w1.heap.size + 1 + 1 + 1 := by omega
  have g0 := below_some hb1 _ _ _ (cell_nu (k := w.heap.size + 1 + 1) (i := 0) (by simp) rfl)
  have g1 := below_some hb1 _ _ _ (cell_nu (k := w.heap.size + 1 + 1) (i := 1) (by simp) rfl)
  go_wp2_with fail
  refine bodyPost_ret (v := .tuple #[.agg #[.int .i64 (Thi.prN (Thi.isN a b x) a b), .int .i64 (Thi.prD (Thi.isN a b x) a b)], .int .i64 (Thi.prE a b)]) (by simp [results, Tryd.results34, go_sem, g0, g1]) rfl ⟨rfl, ?_⟩
  exact below_set (below_set hB_w_1 (by simp; try omega)) (by simp; try omega)
end Go.Proofs.YtjcjchapfiokeaaDoor
