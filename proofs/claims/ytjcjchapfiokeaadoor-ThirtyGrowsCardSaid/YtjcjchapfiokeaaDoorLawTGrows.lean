/- The walk of ThirtyGrows: the law returns true for every input. Conditions: the table of months' lengths lies as the program's text lays it. -/
import Derived.Test.YtjcjchapfiokeaaDoorThiS
import Derived.Test.YtjcjchapfiokeaaDoorFra
namespace Go.Proofs.YtjcjchapfiokeaaDoor
open Go.RowKit
set_option linter.unusedVariables false
theorem fr_right {n p d : Nat} (h : FR n p d) (w : World) : Calls Tryd.prog 38 #[.agg #[.int .i64 (p : Int), .int .i64 (d : Int)]] w fun e w' => e = .returned (.bool true) ∧ Below w.heap.size w w' := by
  obtain ⟨_, _, h1, h2, h3, h4, _⟩ := h
  refine (right_c p d h1 h2 (by omega) w).mono ?_
  rintro e w' ⟨rfl, hb⟩
  exact ⟨by simp [h4], hb⟩
theorem fr_cmp {a b c d : Nat} {x : Int} (hb : a ≤ 4611686018427387904 ∧ b ≤ 360 ∧ c ≤ 4611686018427387904 ∧ d ≤ 360) (hx : cmpI (a * d) (c * b) = x) (w : World) : Calls Tryd.prog 39 #[.agg #[.int .i64 (a : Int), .int .i64 (b : Int)], .agg #[.int .i64 (c : Int), .int .i64 (d : Int)]] w fun e w' => e = .returned (.int .i64 x) ∧ Below w.heap.size w w' := by
  have g := dcmp_c a b c d hb.1 (by omega) hb.2.2.1 (by omega) w
  rw [hx] at g; exact g
theorem cmpI_le {n m : Nat} (h : n ≤ m) : cmpI n m ≤ 0 := by unfold cmpI; split <;> (try split) <;> omega
set_option maxRecDepth 100000 in
set_option maxHeartbeats 16000000 in
theorem tgrows_na (a b k : Int) (eom : Bool)  (k1 : 0 ≤ k) (k2 : k ≤ 255) (h : dayB a = false) (w : World) (hL : Laid w) : Calls Tryd.prog 11 #[.agg #[.int .i64 a, .int .i64 b, .int .u8 k, .bool eom]] w fun e w' => e = .returned (.bool true) ∧ Below w.heap.size w w' := by
  have hB : Below w.heap.size w w := Below.refl _ _
  have wk : IntKind.i64.wrap k = k := IntWalk.i64_in _ (by omega)
  go_enter Tryd.func11, Tryd.ntmps11
  go_wp2_with fail
  refine (shown07_c _ (hL.below (by repeat (first | assumption | exact Below.refl _ _ | (with_reducible refine Below.drew ?_) | (with_reducible refine below_drewN' ?_ _) | (with_reducible refine below_al ?_) | ((with_reducible refine below_set ?_ ?_); rotate_left; focus (first | (simp; done) | (simp; omega))))))).mono ?_; rintro e w1 ⟨rfl, hb1⟩
  have hz1 := hb1.size; (try simp at hz1); obtain ⟨hc1, hf1⟩ := bcell hb1; have hB1 := below_step (w := w) hb1 (by repeat (first | assumption | exact Below.refl _ _ | (with_reducible refine Below.drew ?_) | (with_reducible refine below_drewN' ?_ _) | (with_reducible refine below_al ?_) | ((with_reducible refine below_set ?_ ?_); rotate_left; focus (first | (simp; done) | (simp; omega)))))
  have le_w_w1 : w.heap.size ≤ w1.heap.size := by omega
  try have lt_w_w1 : w.heap.size < w1.heap.size := by omega
  go_wp2_with fail
  refine (rday_c _ _).mono ?_; rintro e w' ⟨rfl, rfl⟩
  rw [h]
  go_wp2_with fail
  go_ret
  exact ⟨rfl, by repeat (first | assumption | exact Below.refl _ _ | (with_reducible refine Below.drew ?_) | (with_reducible refine below_drewN' ?_ _) | (with_reducible refine below_al ?_) | ((with_reducible refine below_set ?_ ?_); rotate_left; focus (first | (simp; done) | (simp; omega))))⟩
set_option maxRecDepth 100000 in
set_option maxHeartbeats 16000000 in
theorem tgrows_nb (a b k : Int) (eom : Bool)  (k1 : 0 ≤ k) (k2 : k ≤ 255) (h : dayB a = true) (h' : dayB b = false) (w : World) (hL : Laid w) : Calls Tryd.prog 11 #[.agg #[.int .i64 a, .int .i64 b, .int .u8 k, .bool eom]] w fun e w' => e = .returned (.bool true) ∧ Below w.heap.size w w' := by
  have hB : Below w.heap.size w w := Below.refl _ _
  have wk : IntKind.i64.wrap k = k := IntWalk.i64_in _ (by omega)
  go_enter Tryd.func11, Tryd.ntmps11
  go_wp2_with fail
  refine (shown07_c _ (hL.below (by repeat (first | assumption | exact Below.refl _ _ | (with_reducible refine Below.drew ?_) | (with_reducible refine below_drewN' ?_ _) | (with_reducible refine below_al ?_) | ((with_reducible refine below_set ?_ ?_); rotate_left; focus (first | (simp; done) | (simp; omega))))))).mono ?_; rintro e w1 ⟨rfl, hb1⟩
  have hz1 := hb1.size; (try simp at hz1); obtain ⟨hc1, hf1⟩ := bcell hb1; have hB1 := below_step (w := w) hb1 (by repeat (first | assumption | exact Below.refl _ _ | (with_reducible refine Below.drew ?_) | (with_reducible refine below_drewN' ?_ _) | (with_reducible refine below_al ?_) | ((with_reducible refine below_set ?_ ?_); rotate_left; focus (first | (simp; done) | (simp; omega)))))
  have le_w_w1 : w.heap.size ≤ w1.heap.size := by omega
  try have lt_w_w1 : w.heap.size < w1.heap.size := by omega
  go_wp2_with fail
  refine (rday_c _ _).mono ?_; rintro e w' ⟨rfl, rfl⟩
  rw [h]
  go_wp2_with fail
  refine (rday_c _ _).mono ?_; rintro e w' ⟨rfl, rfl⟩
  rw [h']
  go_wp2_with fail
  go_ret
  exact ⟨rfl, by repeat (first | assumption | exact Below.refl _ _ | (with_reducible refine Below.drew ?_) | (with_reducible refine below_drewN' ?_ _) | (with_reducible refine below_al ?_) | ((with_reducible refine below_set ?_ ?_); rotate_left; focus (first | (simp; done) | (simp; omega))))⟩
set_option maxRecDepth 100000 in
set_option maxHeartbeats 16000000 in
theorem tgrows_no (a b k : Int) (eom : Bool)  (k1 : 0 ≤ k) (k2 : k ≤ 255) (h : dayB a = true) (h' : dayB b = true) (hab : b < a) (w : World) (hL : Laid w) : Calls Tryd.prog 11 #[.agg #[.int .i64 a, .int .i64 b, .int .u8 k, .bool eom]] w fun e w' => e = .returned (.bool true) ∧ Below w.heap.size w w' := by
  have hB : Below w.heap.size w w := Below.refl _ _
  have wk : IntKind.i64.wrap k = k := IntWalk.i64_in _ (by omega)
  go_enter Tryd.func11, Tryd.ntmps11
  go_wp2_with fail
  refine (shown07_c _ (hL.below (by repeat (first | assumption | exact Below.refl _ _ | (with_reducible refine Below.drew ?_) | (with_reducible refine below_drewN' ?_ _) | (with_reducible refine below_al ?_) | ((with_reducible refine below_set ?_ ?_); rotate_left; focus (first | (simp; done) | (simp; omega))))))).mono ?_; rintro e w1 ⟨rfl, hb1⟩
  have hz1 := hb1.size; (try simp at hz1); obtain ⟨hc1, hf1⟩ := bcell hb1; have hB1 := below_step (w := w) hb1 (by repeat (first | assumption | exact Below.refl _ _ | (with_reducible refine Below.drew ?_) | (with_reducible refine below_drewN' ?_ _) | (with_reducible refine below_al ?_) | ((with_reducible refine below_set ?_ ?_); rotate_left; focus (first | (simp; done) | (simp; omega)))))
  have le_w_w1 : w.heap.size ≤ w1.heap.size := by omega
  try have lt_w_w1 : w.heap.size < w1.heap.size := by omega
  go_wp2_with fail
  refine (rday_c _ _).mono ?_; rintro e w' ⟨rfl, rfl⟩
  rw [h]
  go_wp2_with fail
  refine (rday_c _ _).mono ?_; rintro e w' ⟨rfl, rfl⟩
  rw [h']
  go_wp2_with fail
  go_ret
  exact ⟨rfl, by repeat (first | assumption | exact Below.refl _ _ | (with_reducible refine Below.drew ?_) | (with_reducible refine below_drewN' ?_ _) | (with_reducible refine below_al ?_) | ((with_reducible refine below_set ?_ ?_); rotate_left; focus (first | (simp; done) | (simp; omega))))⟩
set_option maxRecDepth 100000 in
set_option maxHeartbeats 16000000 in
theorem tgrows_nc (a b k : Int) (eom : Bool)  (k1 : 0 ≤ k) (k2 : k ≤ 255) (h : dayB a = true) (h' : dayB b = true) (hab : ¬ b < a) (b1 : 1 ≤ b) (b2 : b ≤ 3652059) (hc : 3652059 < b + k) (w : World) (hL : Laid w) : Calls Tryd.prog 11 #[.agg #[.int .i64 a, .int .i64 b, .int .u8 k, .bool eom]] w fun e w' => e = .returned (.bool true) ∧ Below w.heap.size w w' := by
  have hB : Below w.heap.size w w := Below.refl _ _
  have wk : IntKind.i64.wrap k = k := IntWalk.i64_in _ (by omega)
  have wbk : IntKind.i64.wrap (b + k) = b + k := IntWalk.i64_in _ (by omega)
  go_enter Tryd.func11, Tryd.ntmps11
  go_wp2_with fail
  refine (shown07_c _ (hL.below (by repeat (first | assumption | exact Below.refl _ _ | (with_reducible refine Below.drew ?_) | (with_reducible refine below_drewN' ?_ _) | (with_reducible refine below_al ?_) | ((with_reducible refine below_set ?_ ?_); rotate_left; focus (first | (simp; done) | (simp; omega))))))).mono ?_; rintro e w1 ⟨rfl, hb1⟩
  have hz1 := hb1.size; (try simp at hz1); obtain ⟨hc1, hf1⟩ := bcell hb1; have hB1 := below_step (w := w) hb1 (by repeat (first | assumption | exact Below.refl _ _ | (with_reducible refine Below.drew ?_) | (with_reducible refine below_drewN' ?_ _) | (with_reducible refine below_al ?_) | ((with_reducible refine below_set ?_ ?_); rotate_left; focus (first | (simp; done) | (simp; omega)))))
  have le_w_w1 : w.heap.size ≤ w1.heap.size := by omega
  try have lt_w_w1 : w.heap.size < w1.heap.size := by omega
  go_wp2_with fail
  refine (rday_c _ _).mono ?_; rintro e w' ⟨rfl, rfl⟩
  rw [h]
  go_wp2_with fail
  refine (rday_c _ _).mono ?_; rintro e w' ⟨rfl, rfl⟩
  rw [h']
  go_wp2_with fail
  go_ret
  exact ⟨rfl, by repeat (first | assumption | exact Below.refl _ _ | (with_reducible refine Below.drew ?_) | (with_reducible refine below_drewN' ?_ _) | (with_reducible refine below_al ?_) | ((with_reducible refine below_set ?_ ?_); rotate_left; focus (first | (simp; done) | (simp; omega))))⟩
set_option maxRecDepth 100000 in
set_option maxHeartbeats 16000000 in
theorem tgrows_ok (a b k : Int) (eom : Bool) (c x0 x2 x4 : Int) (n0 p0 d0 n1 p1 d1 n2 p2 d2 n3 p3 d3 n4 p4 d4 n5 p5 d5 : Nat) (k1 : 0 ≤ k) (k2 : k ≤ 255) (h : dayB a = true) (h' : dayB b = true) (hab : ¬ b < a) (b1 : 1 ≤ b) (b2 : b ≤ 3652059) (hc : ¬ 3652059 < b + k) (hk : b + k = c) (H0 : Hid (Thi.prN (Thi.usN a b eom) a b = (p0 : Int) ∧ Thi.prD (Thi.usN a b eom) a b = (d0 : Int) ∧ Thi.prE a b = 0)) (F0 : Hid (FR n0 p0 d0)) (H1 : Hid (Thi.prN (Thi.usN a c eom) a c = (p1 : Int) ∧ Thi.prD (Thi.usN a c eom) a c = (d1 : Int) ∧ Thi.prE a c = 0)) (F1 : Hid (FR n1 p1 d1)) (H2 : Hid (Thi.prN (Thi.eN a b) a b = (p2 : Int) ∧ Thi.prD (Thi.eN a b) a b = (d2 : Int) ∧ Thi.prE a b = 0)) (F2 : Hid (FR n2 p2 d2)) (H3 : Hid (Thi.prN (Thi.eN a c) a c = (p3 : Int) ∧ Thi.prD (Thi.eN a c) a c = (d3 : Int) ∧ Thi.prE a c = 0)) (F3 : Hid (FR n3 p3 d3)) (H4 : Hid (Thi.prN (Thi.isN a b 0) a b = (p4 : Int) ∧ Thi.prD (Thi.isN a b 0) a b = (d4 : Int) ∧ Thi.prE a b = 0)) (F4 : Hid (FR n4 p4 d4)) (H5 : Hid (Thi.prN (Thi.isN a c 0) a c = (p5 : Int) ∧ Thi.prD (Thi.isN a c 0) a c = (d5 : Int) ∧ Thi.prE a c = 0)) (F5 : Hid (FR n5 p5 d5)) (C0 : Hid (cmpI (p0 * d1) (p1 * d0) = x0)) (X0 : x0 ≤ 0) (C2 : Hid (cmpI (p2 * d3) (p3 * d2) = x2)) (X2 : x2 ≤ 0) (C4 : Hid (cmpI (p4 * d5) (p5 * d4) = x4)) (X4 : x4 ≤ 0) (w : World) (hL : Laid w) : Calls Tryd.prog 11 #[.agg #[.int .i64 a, .int .i64 b, .int .u8 k, .bool eom]] w fun e w' => e = .returned (.bool true) ∧ Below w.heap.size w w' := by
  have hB : Below w.heap.size w w := Below.refl _ _
  have wk : IntKind.i64.wrap k = k := IntWalk.i64_in _ (by omega)
  have wbk : IntKind.i64.wrap (b + k) = b + k := IntWalk.i64_in _ (by omega)
  have m0 : (360 : Int).tmod (d0 : Int) = 0 := F0.out.2.2.2.2.2.2
  have z0 : ¬ (d0 : Int) = 0 := by have := F0.out.2.2.2.1; omega
  have m1 : (360 : Int).tmod (d1 : Int) = 0 := F1.out.2.2.2.2.2.2
  have z1 : ¬ (d1 : Int) = 0 := by have := F1.out.2.2.2.1; omega
  have m2 : (360 : Int).tmod (d2 : Int) = 0 := F2.out.2.2.2.2.2.2
  have z2 : ¬ (d2 : Int) = 0 := by have := F2.out.2.2.2.1; omega
  have m3 : (360 : Int).tmod (d3 : Int) = 0 := F3.out.2.2.2.2.2.2
  have z3 : ¬ (d3 : Int) = 0 := by have := F3.out.2.2.2.1; omega
  have m4 : (360 : Int).tmod (d4 : Int) = 0 := F4.out.2.2.2.2.2.2
  have z4 : ¬ (d4 : Int) = 0 := by have := F4.out.2.2.2.1; omega
  have m5 : (360 : Int).tmod (d5 : Int) = 0 := F5.out.2.2.2.2.2.2
  have z5 : ¬ (d5 : Int) = 0 := by have := F5.out.2.2.2.1; omega
  have B0 := Lib.hid (show p0 ≤ 4611686018427387904 ∧ d0 ≤ 360 ∧ p1 ≤ 4611686018427387904 ∧ d1 ≤ 360 from ⟨F0.out.2.2.1, F0.out.2.2.2.2.1, F1.out.2.2.1, F1.out.2.2.2.2.1⟩)
  have y0 : decide (x0 ≤ 0) = true := decide_eq_true X0
  have B2 := Lib.hid (show p2 ≤ 4611686018427387904 ∧ d2 ≤ 360 ∧ p3 ≤ 4611686018427387904 ∧ d3 ≤ 360 from ⟨F2.out.2.2.1, F2.out.2.2.2.2.1, F3.out.2.2.1, F3.out.2.2.2.2.1⟩)
  have y2 : decide (x2 ≤ 0) = true := decide_eq_true X2
  have B4 := Lib.hid (show p4 ≤ 4611686018427387904 ∧ d4 ≤ 360 ∧ p5 ≤ 4611686018427387904 ∧ d5 ≤ 360 from ⟨F4.out.2.2.1, F4.out.2.2.2.2.1, F5.out.2.2.1, F5.out.2.2.2.2.1⟩)
  have y4 : decide (x4 ≤ 0) = true := decide_eq_true X4
  rw [hk] at wbk hc
  go_enter Tryd.func11, Tryd.ntmps11
  go_wp2_with fail
  refine (shown07_c _ (hL.below (by repeat (first | assumption | exact Below.refl _ _ | (with_reducible refine Below.drew ?_) | (with_reducible refine below_drewN' ?_ _) | (with_reducible refine below_al ?_) | ((with_reducible refine below_set ?_ ?_); rotate_left; focus (first | (simp; done) | (simp; omega))))))).mono ?_; rintro e w1 ⟨rfl, hb1⟩
  have hz1 := hb1.size; (try simp at hz1); obtain ⟨hc1, hf1⟩ := bcell hb1; have hB1 := below_step (w := w) hb1 (by repeat (first | assumption | exact Below.refl _ _ | (with_reducible refine Below.drew ?_) | (with_reducible refine below_drewN' ?_ _) | (with_reducible refine below_al ?_) | ((with_reducible refine below_set ?_ ?_); rotate_left; focus (first | (simp; done) | (simp; omega)))))
  have le_w_w1 : w.heap.size ≤ w1.heap.size := by omega
  try have lt_w_w1 : w.heap.size < w1.heap.size := by omega
  go_wp2_with fail
  refine (rday_c _ _).mono ?_; rintro e w' ⟨rfl, rfl⟩
  rw [h]
  go_wp2_with fail
  refine (rday_c _ _).mono ?_; rintro e w' ⟨rfl, rfl⟩
  rw [h']
  go_wp2_with fail
  refine (pr_at H0.out (tus_c _ _ _ _ (hL.below (by repeat (first | assumption | exact Below.refl _ _ | (with_reducible refine Below.drew ?_) | (with_reducible refine below_drewN' ?_ _) | (with_reducible refine below_al ?_) | ((with_reducible refine below_set ?_ ?_); rotate_left; focus (first | (simp; done) | (simp; omega)))))))).mono ?_; rintro e w2 ⟨rfl, hb2⟩
  have hz2 := hb2.size; (try simp at hz2); obtain ⟨hc2, hf2⟩ := bcell hb2; have hB2 := below_step (w := w) hb2 (by repeat (first | assumption | exact Below.refl _ _ | (with_reducible refine Below.drew ?_) | (with_reducible refine below_drewN' ?_ _) | (with_reducible refine below_al ?_) | ((with_reducible refine below_set ?_ ?_); rotate_left; focus (first | (simp; done) | (simp; omega)))))
  have le_w_w2 : w.heap.size ≤ w2.heap.size := by omega
  try have lt_w_w2 : w.heap.size < w2.heap.size := by omega
  have le_w1_w2 : w1.heap.size ≤ w2.heap.size := by omega
  try have lt_w1_w2 : w1.heap.size < w2.heap.size := by omega
  go_wp2_with fail
  refine (pr_at H1.out (tus_c _ _ _ _ (hL.below (by repeat (first | assumption | exact Below.refl _ _ | (with_reducible refine Below.drew ?_) | (with_reducible refine below_drewN' ?_ _) | (with_reducible refine below_al ?_) | ((with_reducible refine below_set ?_ ?_); rotate_left; focus (first | (simp; done) | (simp; omega)))))))).mono ?_; rintro e w3 ⟨rfl, hb3⟩
  have hz3 := hb3.size; (try simp at hz3); obtain ⟨hc3, hf3⟩ := bcell hb3; have hB3 := below_step (w := w) hb3 (by repeat (first | assumption | exact Below.refl _ _ | (with_reducible refine Below.drew ?_) | (with_reducible refine below_drewN' ?_ _) | (with_reducible refine below_al ?_) | ((with_reducible refine below_set ?_ ?_); rotate_left; focus (first | (simp; done) | (simp; omega)))))
  have le_w_w3 : w.heap.size ≤ w3.heap.size := by omega
  try have lt_w_w3 : w.heap.size < w3.heap.size := by omega
  have le_w1_w3 : w1.heap.size ≤ w3.heap.size := by omega
  try have lt_w1_w3 : w1.heap.size < w3.heap.size := by omega
  have le_w2_w3 : w2.heap.size ≤ w3.heap.size := by omega
  try have lt_w2_w3 : w2.heap.size < w3.heap.size := by omega
  go_wp2_with fail
  refine (pr_at H2.out (te_c _ _ _ (hL.below (by repeat (first | assumption | exact Below.refl _ _ | (with_reducible refine Below.drew ?_) | (with_reducible refine below_drewN' ?_ _) | (with_reducible refine below_al ?_) | ((with_reducible refine below_set ?_ ?_); rotate_left; focus (first | (simp; done) | (simp; omega)))))))).mono ?_; rintro e w4 ⟨rfl, hb4⟩
  have hz4 := hb4.size; (try simp at hz4); obtain ⟨hc4, hf4⟩ := bcell hb4; have hB4 := below_step (w := w) hb4 (by repeat (first | assumption | exact Below.refl _ _ | (with_reducible refine Below.drew ?_) | (with_reducible refine below_drewN' ?_ _) | (with_reducible refine below_al ?_) | ((with_reducible refine below_set ?_ ?_); rotate_left; focus (first | (simp; done) | (simp; omega)))))
  have le_w_w4 : w.heap.size ≤ w4.heap.size := by omega
  try have lt_w_w4 : w.heap.size < w4.heap.size := by omega
  have le_w1_w4 : w1.heap.size ≤ w4.heap.size := by omega
  try have lt_w1_w4 : w1.heap.size < w4.heap.size := by omega
  have le_w2_w4 : w2.heap.size ≤ w4.heap.size := by omega
  try have lt_w2_w4 : w2.heap.size < w4.heap.size := by omega
  have le_w3_w4 : w3.heap.size ≤ w4.heap.size := by omega
  try have lt_w3_w4 : w3.heap.size < w4.heap.size := by omega
  go_wp2_with fail
  refine (pr_at H3.out (te_c _ _ _ (hL.below (by repeat (first | assumption | exact Below.refl _ _ | (with_reducible refine Below.drew ?_) | (with_reducible refine below_drewN' ?_ _) | (with_reducible refine below_al ?_) | ((with_reducible refine below_set ?_ ?_); rotate_left; focus (first | (simp; done) | (simp; omega)))))))).mono ?_; rintro e w5 ⟨rfl, hb5⟩
  have hz5 := hb5.size; (try simp at hz5); obtain ⟨hc5, hf5⟩ := bcell hb5; have hB5 := below_step (w := w) hb5 (by repeat (first | assumption | exact Below.refl _ _ | (with_reducible refine Below.drew ?_) | (with_reducible refine below_drewN' ?_ _) | (with_reducible refine below_al ?_) | ((with_reducible refine below_set ?_ ?_); rotate_left; focus (first | (simp; done) | (simp; omega)))))
  have le_w_w5 : w.heap.size ≤ w5.heap.size := by omega
  try have lt_w_w5 : w.heap.size < w5.heap.size := by omega
  have le_w1_w5 : w1.heap.size ≤ w5.heap.size := by omega
  try have lt_w1_w5 : w1.heap.size < w5.heap.size := by omega
  have le_w2_w5 : w2.heap.size ≤ w5.heap.size := by omega
  try have lt_w2_w5 : w2.heap.size < w5.heap.size := by omega
  have le_w3_w5 : w3.heap.size ≤ w5.heap.size := by omega
  try have lt_w3_w5 : w3.heap.size < w5.heap.size := by omega
  have le_w4_w5 : w4.heap.size ≤ w5.heap.size := by omega
  try have lt_w4_w5 : w4.heap.size < w5.heap.size := by omega
  go_wp2_with fail
  refine (pr_at H4.out (tis_c _ _ _ _ (hL.below (by repeat (first | assumption | exact Below.refl _ _ | (with_reducible refine Below.drew ?_) | (with_reducible refine below_drewN' ?_ _) | (with_reducible refine below_al ?_) | ((with_reducible refine below_set ?_ ?_); rotate_left; focus (first | (simp; done) | (simp; omega)))))))).mono ?_; rintro e w6 ⟨rfl, hb6⟩
  have hz6 := hb6.size; (try simp at hz6); obtain ⟨hc6, hf6⟩ := bcell hb6; have hB6 := below_step (w := w) hb6 (by repeat (first | assumption | exact Below.refl _ _ | (with_reducible refine Below.drew ?_) | (with_reducible refine below_drewN' ?_ _) | (with_reducible refine below_al ?_) | ((with_reducible refine below_set ?_ ?_); rotate_left; focus (first | (simp; done) | (simp; omega)))))
  have le_w_w6 : w.heap.size ≤ w6.heap.size := by omega
  try have lt_w_w6 : w.heap.size < w6.heap.size := by omega
  have le_w1_w6 : w1.heap.size ≤ w6.heap.size := by omega
  try have lt_w1_w6 : w1.heap.size < w6.heap.size := by omega
  have le_w2_w6 : w2.heap.size ≤ w6.heap.size := by omega
  try have lt_w2_w6 : w2.heap.size < w6.heap.size := by omega
  have le_w3_w6 : w3.heap.size ≤ w6.heap.size := by omega
  try have lt_w3_w6 : w3.heap.size < w6.heap.size := by omega
  have le_w4_w6 : w4.heap.size ≤ w6.heap.size := by omega
  try have lt_w4_w6 : w4.heap.size < w6.heap.size := by omega
  have le_w5_w6 : w5.heap.size ≤ w6.heap.size := by omega
  try have lt_w5_w6 : w5.heap.size < w6.heap.size := by omega
  go_wp2_with fail
  refine (pr_at H5.out (tis_c _ _ _ _ (hL.below (by repeat (first | assumption | exact Below.refl _ _ | (with_reducible refine Below.drew ?_) | (with_reducible refine below_drewN' ?_ _) | (with_reducible refine below_al ?_) | ((with_reducible refine below_set ?_ ?_); rotate_left; focus (first | (simp; done) | (simp; omega)))))))).mono ?_; rintro e w7 ⟨rfl, hb7⟩
  have hz7 := hb7.size; (try simp at hz7); obtain ⟨hc7, hf7⟩ := bcell hb7; have hB7 := below_step (w := w) hb7 (by repeat (first | assumption | exact Below.refl _ _ | (with_reducible refine Below.drew ?_) | (with_reducible refine below_drewN' ?_ _) | (with_reducible refine below_al ?_) | ((with_reducible refine below_set ?_ ?_); rotate_left; focus (first | (simp; done) | (simp; omega)))))
  have le_w_w7 : w.heap.size ≤ w7.heap.size := by omega
  try have lt_w_w7 : w.heap.size < w7.heap.size := by omega
  have le_w1_w7 : w1.heap.size ≤ w7.heap.size := by omega
  try have lt_w1_w7 : w1.heap.size < w7.heap.size := by omega
  have le_w2_w7 : w2.heap.size ≤ w7.heap.size := by omega
  try have lt_w2_w7 : w2.heap.size < w7.heap.size := by omega
  have le_w3_w7 : w3.heap.size ≤ w7.heap.size := by omega
  try have lt_w3_w7 : w3.heap.size < w7.heap.size := by omega
  have le_w4_w7 : w4.heap.size ≤ w7.heap.size := by omega
  try have lt_w4_w7 : w4.heap.size < w7.heap.size := by omega
  have le_w5_w7 : w5.heap.size ≤ w7.heap.size := by omega
  try have lt_w5_w7 : w5.heap.size < w7.heap.size := by omega
  have le_w6_w7 : w6.heap.size ≤ w7.heap.size := by omega
  try have lt_w6_w7 : w6.heap.size < w7.heap.size := by omega
  go_wp2_with fail
  refine wp_loop_rounds 7 ?_
  have lq2 : w2.heap.size < w7.heap.size + 1 + 1 := by omega
  have lq3 : w3.heap.size < w7.heap.size + 1 + 1 := by omega
  have lq4 : w4.heap.size < w7.heap.size + 1 + 1 := by omega
  have lq5 : w5.heap.size < w7.heap.size + 1 + 1 := by omega
  have lq6 : w6.heap.size < w7.heap.size + 1 + 1 := by omega
  have lq7 : w7.heap.size < w7.heap.size + 1 + 1 := by omega
  rw [rounds_succ]
  go_wp2_with fail
  refine (fr_right F0.out _).mono ?_; rintro e w8 ⟨rfl, hb8⟩
  have hz8 := hb8.size; (try simp at hz8); obtain ⟨hc8, hf8⟩ := bcell hb8; have hB8 := below_step (w := w) hb8 (by repeat (first | assumption | exact Below.refl _ _ | (with_reducible refine Below.drew ?_) | (with_reducible refine below_drewN' ?_ _) | (with_reducible refine below_al ?_) | ((with_reducible refine below_set ?_ ?_); rotate_left; focus (first | (simp; done) | (simp; omega)))))
  have le_w_w8 : w.heap.size ≤ w8.heap.size := by omega
  try have lt_w_w8 : w.heap.size < w8.heap.size := by omega
  have le_w1_w8 : w1.heap.size ≤ w8.heap.size := by omega
  try have lt_w1_w8 : w1.heap.size < w8.heap.size := by omega
  have le_w2_w8 : w2.heap.size ≤ w8.heap.size := by omega
  try have lt_w2_w8 : w2.heap.size < w8.heap.size := by omega
  have le_w3_w8 : w3.heap.size ≤ w8.heap.size := by omega
  try have lt_w3_w8 : w3.heap.size < w8.heap.size := by omega
  have le_w4_w8 : w4.heap.size ≤ w8.heap.size := by omega
  try have lt_w4_w8 : w4.heap.size < w8.heap.size := by omega
  have le_w5_w8 : w5.heap.size ≤ w8.heap.size := by omega
  try have lt_w5_w8 : w5.heap.size < w8.heap.size := by omega
  have le_w6_w8 : w6.heap.size ≤ w8.heap.size := by omega
  try have lt_w6_w8 : w6.heap.size < w8.heap.size := by omega
  have le_w7_w8 : w7.heap.size ≤ w8.heap.size := by omega
  try have lt_w7_w8 : w7.heap.size < w8.heap.size := by omega
  have le1_w7_w8 : w7.heap.size + 1 ≤ w8.heap.size := by omega
  try have lt1_w7_w8 : w7.heap.size + 1 < w8.heap.size := by omega
  go_wp2_with fail
  rw [rounds_succ]
  go_wp2_with fail
  refine (fr_right F1.out _).mono ?_; rintro e w9 ⟨rfl, hb9⟩
  have hz9 := hb9.size; (try simp at hz9); obtain ⟨hc9, hf9⟩ := bcell hb9; have hB9 := below_step (w := w) hb9 (by repeat (first | assumption | exact Below.refl _ _ | (with_reducible refine Below.drew ?_) | (with_reducible refine below_drewN' ?_ _) | (with_reducible refine below_al ?_) | ((with_reducible refine below_set ?_ ?_); rotate_left; focus (first | (simp; done) | (simp; omega)))))
  have le_w_w9 : w.heap.size ≤ w9.heap.size := by omega
  try have lt_w_w9 : w.heap.size < w9.heap.size := by omega
  have le_w1_w9 : w1.heap.size ≤ w9.heap.size := by omega
  try have lt_w1_w9 : w1.heap.size < w9.heap.size := by omega
  have le_w2_w9 : w2.heap.size ≤ w9.heap.size := by omega
  try have lt_w2_w9 : w2.heap.size < w9.heap.size := by omega
  have le_w3_w9 : w3.heap.size ≤ w9.heap.size := by omega
  try have lt_w3_w9 : w3.heap.size < w9.heap.size := by omega
  have le_w4_w9 : w4.heap.size ≤ w9.heap.size := by omega
  try have lt_w4_w9 : w4.heap.size < w9.heap.size := by omega
  have le_w5_w9 : w5.heap.size ≤ w9.heap.size := by omega
  try have lt_w5_w9 : w5.heap.size < w9.heap.size := by omega
  have le_w6_w9 : w6.heap.size ≤ w9.heap.size := by omega
  try have lt_w6_w9 : w6.heap.size < w9.heap.size := by omega
  have le_w7_w9 : w7.heap.size ≤ w9.heap.size := by omega
  try have lt_w7_w9 : w7.heap.size < w9.heap.size := by omega
  have le1_w7_w9 : w7.heap.size + 1 ≤ w9.heap.size := by omega
  try have lt1_w7_w9 : w7.heap.size + 1 < w9.heap.size := by omega
  have le_w8_w9 : w8.heap.size ≤ w9.heap.size := by omega
  try have lt_w8_w9 : w8.heap.size < w9.heap.size := by omega
  go_wp2_with fail
  rw [rounds_succ]
  go_wp2_with fail
  refine (fr_right F2.out _).mono ?_; rintro e w10 ⟨rfl, hb10⟩
  have hz10 := hb10.size; (try simp at hz10); obtain ⟨hc10, hf10⟩ := bcell hb10; have hB10 := below_step (w := w) hb10 (by repeat (first | assumption | exact Below.refl _ _ | (with_reducible refine Below.drew ?_) | (with_reducible refine below_drewN' ?_ _) | (with_reducible refine below_al ?_) | ((with_reducible refine below_set ?_ ?_); rotate_left; focus (first | (simp; done) | (simp; omega)))))
  have le_w_w10 : w.heap.size ≤ w10.heap.size := by omega
  try have lt_w_w10 : w.heap.size < w10.heap.size := by omega
  have le_w1_w10 : w1.heap.size ≤ w10.heap.size := by omega
  try have lt_w1_w10 : w1.heap.size < w10.heap.size := by omega
  have le_w2_w10 : w2.heap.size ≤ w10.heap.size := by omega
  try have lt_w2_w10 : w2.heap.size < w10.heap.size := by omega
  have le_w3_w10 : w3.heap.size ≤ w10.heap.size := by omega
  try have lt_w3_w10 : w3.heap.size < w10.heap.size := by omega
  have le_w4_w10 : w4.heap.size ≤ w10.heap.size := by omega
  try have lt_w4_w10 : w4.heap.size < w10.heap.size := by omega
  have le_w5_w10 : w5.heap.size ≤ w10.heap.size := by omega
  try have lt_w5_w10 : w5.heap.size < w10.heap.size := by omega
  have le_w6_w10 : w6.heap.size ≤ w10.heap.size := by omega
  try have lt_w6_w10 : w6.heap.size < w10.heap.size := by omega
  have le_w7_w10 : w7.heap.size ≤ w10.heap.size := by omega
  try have lt_w7_w10 : w7.heap.size < w10.heap.size := by omega
  have le1_w7_w10 : w7.heap.size + 1 ≤ w10.heap.size := by omega
  try have lt1_w7_w10 : w7.heap.size + 1 < w10.heap.size := by omega
  have le_w8_w10 : w8.heap.size ≤ w10.heap.size := by omega
  try have lt_w8_w10 : w8.heap.size < w10.heap.size := by omega
  have le_w9_w10 : w9.heap.size ≤ w10.heap.size := by omega
  try have lt_w9_w10 : w9.heap.size < w10.heap.size := by omega
  go_wp2_with fail
  rw [rounds_succ]
  go_wp2_with fail
  refine (fr_right F3.out _).mono ?_; rintro e w11 ⟨rfl, hb11⟩
  have hz11 := hb11.size; (try simp at hz11); obtain ⟨hc11, hf11⟩ := bcell hb11; have hB11 := below_step (w := w) hb11 (by repeat (first | assumption | exact Below.refl _ _ | (with_reducible refine Below.drew ?_) | (with_reducible refine below_drewN' ?_ _) | (with_reducible refine below_al ?_) | ((with_reducible refine below_set ?_ ?_); rotate_left; focus (first | (simp; done) | (simp; omega)))))
  have le_w_w11 : w.heap.size ≤ w11.heap.size := by omega
  try have lt_w_w11 : w.heap.size < w11.heap.size := by omega
  have le_w1_w11 : w1.heap.size ≤ w11.heap.size := by omega
  try have lt_w1_w11 : w1.heap.size < w11.heap.size := by omega
  have le_w2_w11 : w2.heap.size ≤ w11.heap.size := by omega
  try have lt_w2_w11 : w2.heap.size < w11.heap.size := by omega
  have le_w3_w11 : w3.heap.size ≤ w11.heap.size := by omega
  try have lt_w3_w11 : w3.heap.size < w11.heap.size := by omega
  have le_w4_w11 : w4.heap.size ≤ w11.heap.size := by omega
  try have lt_w4_w11 : w4.heap.size < w11.heap.size := by omega
  have le_w5_w11 : w5.heap.size ≤ w11.heap.size := by omega
  try have lt_w5_w11 : w5.heap.size < w11.heap.size := by omega
  have le_w6_w11 : w6.heap.size ≤ w11.heap.size := by omega
  try have lt_w6_w11 : w6.heap.size < w11.heap.size := by omega
  have le_w7_w11 : w7.heap.size ≤ w11.heap.size := by omega
  try have lt_w7_w11 : w7.heap.size < w11.heap.size := by omega
  have le1_w7_w11 : w7.heap.size + 1 ≤ w11.heap.size := by omega
  try have lt1_w7_w11 : w7.heap.size + 1 < w11.heap.size := by omega
  have le_w8_w11 : w8.heap.size ≤ w11.heap.size := by omega
  try have lt_w8_w11 : w8.heap.size < w11.heap.size := by omega
  have le_w9_w11 : w9.heap.size ≤ w11.heap.size := by omega
  try have lt_w9_w11 : w9.heap.size < w11.heap.size := by omega
  have le_w10_w11 : w10.heap.size ≤ w11.heap.size := by omega
  try have lt_w10_w11 : w10.heap.size < w11.heap.size := by omega
  go_wp2_with fail
  rw [rounds_succ]
  go_wp2_with fail
  refine (fr_right F4.out _).mono ?_; rintro e w12 ⟨rfl, hb12⟩
  have hz12 := hb12.size; (try simp at hz12); obtain ⟨hc12, hf12⟩ := bcell hb12; have hB12 := below_step (w := w) hb12 (by repeat (first | assumption | exact Below.refl _ _ | (with_reducible refine Below.drew ?_) | (with_reducible refine below_drewN' ?_ _) | (with_reducible refine below_al ?_) | ((with_reducible refine below_set ?_ ?_); rotate_left; focus (first | (simp; done) | (simp; omega)))))
  have le_w_w12 : w.heap.size ≤ w12.heap.size := by omega
  try have lt_w_w12 : w.heap.size < w12.heap.size := by omega
  have le_w1_w12 : w1.heap.size ≤ w12.heap.size := by omega
  try have lt_w1_w12 : w1.heap.size < w12.heap.size := by omega
  have le_w2_w12 : w2.heap.size ≤ w12.heap.size := by omega
  try have lt_w2_w12 : w2.heap.size < w12.heap.size := by omega
  have le_w3_w12 : w3.heap.size ≤ w12.heap.size := by omega
  try have lt_w3_w12 : w3.heap.size < w12.heap.size := by omega
  have le_w4_w12 : w4.heap.size ≤ w12.heap.size := by omega
  try have lt_w4_w12 : w4.heap.size < w12.heap.size := by omega
  have le_w5_w12 : w5.heap.size ≤ w12.heap.size := by omega
  try have lt_w5_w12 : w5.heap.size < w12.heap.size := by omega
  have le_w6_w12 : w6.heap.size ≤ w12.heap.size := by omega
  try have lt_w6_w12 : w6.heap.size < w12.heap.size := by omega
  have le_w7_w12 : w7.heap.size ≤ w12.heap.size := by omega
  try have lt_w7_w12 : w7.heap.size < w12.heap.size := by omega
  have le1_w7_w12 : w7.heap.size + 1 ≤ w12.heap.size := by omega
  try have lt1_w7_w12 : w7.heap.size + 1 < w12.heap.size := by omega
  have le_w8_w12 : w8.heap.size ≤ w12.heap.size := by omega
  try have lt_w8_w12 : w8.heap.size < w12.heap.size := by omega
  have le_w9_w12 : w9.heap.size ≤ w12.heap.size := by omega
  try have lt_w9_w12 : w9.heap.size < w12.heap.size := by omega
  have le_w10_w12 : w10.heap.size ≤ w12.heap.size := by omega
  try have lt_w10_w12 : w10.heap.size < w12.heap.size := by omega
  have le_w11_w12 : w11.heap.size ≤ w12.heap.size := by omega
  try have lt_w11_w12 : w11.heap.size < w12.heap.size := by omega
  go_wp2_with fail
  rw [rounds_succ]
  go_wp2_with fail
  refine (fr_right F5.out _).mono ?_; rintro e w13 ⟨rfl, hb13⟩
  have hz13 := hb13.size; (try simp at hz13); obtain ⟨hc13, hf13⟩ := bcell hb13; have hB13 := below_step (w := w) hb13 (by repeat (first | assumption | exact Below.refl _ _ | (with_reducible refine Below.drew ?_) | (with_reducible refine below_drewN' ?_ _) | (with_reducible refine below_al ?_) | ((with_reducible refine below_set ?_ ?_); rotate_left; focus (first | (simp; done) | (simp; omega)))))
  have le_w_w13 : w.heap.size ≤ w13.heap.size := by omega
  try have lt_w_w13 : w.heap.size < w13.heap.size := by omega
  have le_w1_w13 : w1.heap.size ≤ w13.heap.size := by omega
  try have lt_w1_w13 : w1.heap.size < w13.heap.size := by omega
  have le_w2_w13 : w2.heap.size ≤ w13.heap.size := by omega
  try have lt_w2_w13 : w2.heap.size < w13.heap.size := by omega
  have le_w3_w13 : w3.heap.size ≤ w13.heap.size := by omega
  try have lt_w3_w13 : w3.heap.size < w13.heap.size := by omega
  have le_w4_w13 : w4.heap.size ≤ w13.heap.size := by omega
  try have lt_w4_w13 : w4.heap.size < w13.heap.size := by omega
  have le_w5_w13 : w5.heap.size ≤ w13.heap.size := by omega
  try have lt_w5_w13 : w5.heap.size < w13.heap.size := by omega
  have le_w6_w13 : w6.heap.size ≤ w13.heap.size := by omega
  try have lt_w6_w13 : w6.heap.size < w13.heap.size := by omega
  have le_w7_w13 : w7.heap.size ≤ w13.heap.size := by omega
  try have lt_w7_w13 : w7.heap.size < w13.heap.size := by omega
  have le1_w7_w13 : w7.heap.size + 1 ≤ w13.heap.size := by omega
  try have lt1_w7_w13 : w7.heap.size + 1 < w13.heap.size := by omega
  have le_w8_w13 : w8.heap.size ≤ w13.heap.size := by omega
  try have lt_w8_w13 : w8.heap.size < w13.heap.size := by omega
  have le_w9_w13 : w9.heap.size ≤ w13.heap.size := by omega
  try have lt_w9_w13 : w9.heap.size < w13.heap.size := by omega
  have le_w10_w13 : w10.heap.size ≤ w13.heap.size := by omega
  try have lt_w10_w13 : w10.heap.size < w13.heap.size := by omega
  have le_w11_w13 : w11.heap.size ≤ w13.heap.size := by omega
  try have lt_w11_w13 : w11.heap.size < w13.heap.size := by omega
  have le_w12_w13 : w12.heap.size ≤ w13.heap.size := by omega
  try have lt_w12_w13 : w12.heap.size < w13.heap.size := by omega
  go_wp2_with fail
  rw [rounds_succ]
  go_wp2_with fail
  refine (fr_cmp B2.out C2.out _).mono ?_; rintro e w14 ⟨rfl, hb14⟩
  have hz14 := hb14.size; (try simp at hz14); obtain ⟨hc14, hf14⟩ := bcell hb14; have hB14 := below_step (w := w) hb14 (by repeat (first | assumption | exact Below.refl _ _ | (with_reducible refine Below.drew ?_) | (with_reducible refine below_drewN' ?_ _) | (with_reducible refine below_al ?_) | ((with_reducible refine below_set ?_ ?_); rotate_left; focus (first | (simp; done) | (simp; omega)))))
  have le_w_w14 : w.heap.size ≤ w14.heap.size := by omega
  try have lt_w_w14 : w.heap.size < w14.heap.size := by omega
  have le_w1_w14 : w1.heap.size ≤ w14.heap.size := by omega
  try have lt_w1_w14 : w1.heap.size < w14.heap.size := by omega
  have le_w2_w14 : w2.heap.size ≤ w14.heap.size := by omega
  try have lt_w2_w14 : w2.heap.size < w14.heap.size := by omega
  have le_w3_w14 : w3.heap.size ≤ w14.heap.size := by omega
  try have lt_w3_w14 : w3.heap.size < w14.heap.size := by omega
  have le_w4_w14 : w4.heap.size ≤ w14.heap.size := by omega
  try have lt_w4_w14 : w4.heap.size < w14.heap.size := by omega
  have le_w5_w14 : w5.heap.size ≤ w14.heap.size := by omega
  try have lt_w5_w14 : w5.heap.size < w14.heap.size := by omega
  have le_w6_w14 : w6.heap.size ≤ w14.heap.size := by omega
  try have lt_w6_w14 : w6.heap.size < w14.heap.size := by omega
  have le_w7_w14 : w7.heap.size ≤ w14.heap.size := by omega
  try have lt_w7_w14 : w7.heap.size < w14.heap.size := by omega
  have le1_w7_w14 : w7.heap.size + 1 ≤ w14.heap.size := by omega
  try have lt1_w7_w14 : w7.heap.size + 1 < w14.heap.size := by omega
  have le_w8_w14 : w8.heap.size ≤ w14.heap.size := by omega
  try have lt_w8_w14 : w8.heap.size < w14.heap.size := by omega
  have le_w9_w14 : w9.heap.size ≤ w14.heap.size := by omega
  try have lt_w9_w14 : w9.heap.size < w14.heap.size := by omega
  have le_w10_w14 : w10.heap.size ≤ w14.heap.size := by omega
  try have lt_w10_w14 : w10.heap.size < w14.heap.size := by omega
  have le_w11_w14 : w11.heap.size ≤ w14.heap.size := by omega
  try have lt_w11_w14 : w11.heap.size < w14.heap.size := by omega
  have le_w12_w14 : w12.heap.size ≤ w14.heap.size := by omega
  try have lt_w12_w14 : w12.heap.size < w14.heap.size := by omega
  have le_w13_w14 : w13.heap.size ≤ w14.heap.size := by omega
  try have lt_w13_w14 : w13.heap.size < w14.heap.size := by omega
  go_wp2_with fail
  refine (fr_cmp B4.out C4.out _).mono ?_; rintro e w15 ⟨rfl, hb15⟩
  have hz15 := hb15.size; (try simp at hz15); obtain ⟨hc15, hf15⟩ := bcell hb15; have hB15 := below_step (w := w) hb15 (by repeat (first | assumption | exact Below.refl _ _ | (with_reducible refine Below.drew ?_) | (with_reducible refine below_drewN' ?_ _) | (with_reducible refine below_al ?_) | ((with_reducible refine below_set ?_ ?_); rotate_left; focus (first | (simp; done) | (simp; omega)))))
  have le_w_w15 : w.heap.size ≤ w15.heap.size := by omega
  try have lt_w_w15 : w.heap.size < w15.heap.size := by omega
  have le_w1_w15 : w1.heap.size ≤ w15.heap.size := by omega
  try have lt_w1_w15 : w1.heap.size < w15.heap.size := by omega
  have le_w2_w15 : w2.heap.size ≤ w15.heap.size := by omega
  try have lt_w2_w15 : w2.heap.size < w15.heap.size := by omega
  have le_w3_w15 : w3.heap.size ≤ w15.heap.size := by omega
  try have lt_w3_w15 : w3.heap.size < w15.heap.size := by omega
  have le_w4_w15 : w4.heap.size ≤ w15.heap.size := by omega
  try have lt_w4_w15 : w4.heap.size < w15.heap.size := by omega
  have le_w5_w15 : w5.heap.size ≤ w15.heap.size := by omega
  try have lt_w5_w15 : w5.heap.size < w15.heap.size := by omega
  have le_w6_w15 : w6.heap.size ≤ w15.heap.size := by omega
  try have lt_w6_w15 : w6.heap.size < w15.heap.size := by omega
  have le_w7_w15 : w7.heap.size ≤ w15.heap.size := by omega
  try have lt_w7_w15 : w7.heap.size < w15.heap.size := by omega
  have le1_w7_w15 : w7.heap.size + 1 ≤ w15.heap.size := by omega
  try have lt1_w7_w15 : w7.heap.size + 1 < w15.heap.size := by omega
  have le_w8_w15 : w8.heap.size ≤ w15.heap.size := by omega
  try have lt_w8_w15 : w8.heap.size < w15.heap.size := by omega
  have le_w9_w15 : w9.heap.size ≤ w15.heap.size := by omega
  try have lt_w9_w15 : w9.heap.size < w15.heap.size := by omega
  have le_w10_w15 : w10.heap.size ≤ w15.heap.size := by omega
  try have lt_w10_w15 : w10.heap.size < w15.heap.size := by omega
  have le_w11_w15 : w11.heap.size ≤ w15.heap.size := by omega
  try have lt_w11_w15 : w11.heap.size < w15.heap.size := by omega
  have le_w12_w15 : w12.heap.size ≤ w15.heap.size := by omega
  try have lt_w12_w15 : w12.heap.size < w15.heap.size := by omega
  have le_w13_w15 : w13.heap.size ≤ w15.heap.size := by omega
  try have lt_w13_w15 : w13.heap.size < w15.heap.size := by omega
  have le_w14_w15 : w14.heap.size ≤ w15.heap.size := by omega
  try have lt_w14_w15 : w14.heap.size < w15.heap.size := by omega
  go_wp2_with fail
  refine (fr_cmp B0.out C0.out _).mono ?_; rintro e w16 ⟨rfl, hb16⟩
  have hz16 := hb16.size; (try simp at hz16); obtain ⟨hc16, hf16⟩ := bcell hb16; have hB16 := below_step (w := w) hb16 (by repeat (first | assumption | exact Below.refl _ _ | (with_reducible refine Below.drew ?_) | (with_reducible refine below_drewN' ?_ _) | (with_reducible refine below_al ?_) | ((with_reducible refine below_set ?_ ?_); rotate_left; focus (first | (simp; done) | (simp; omega)))))
  have le_w_w16 : w.heap.size ≤ w16.heap.size := by omega
  try have lt_w_w16 : w.heap.size < w16.heap.size := by omega
  have le_w1_w16 : w1.heap.size ≤ w16.heap.size := by omega
  try have lt_w1_w16 : w1.heap.size < w16.heap.size := by omega
  have le_w2_w16 : w2.heap.size ≤ w16.heap.size := by omega
  try have lt_w2_w16 : w2.heap.size < w16.heap.size := by omega
  have le_w3_w16 : w3.heap.size ≤ w16.heap.size := by omega
  try have lt_w3_w16 : w3.heap.size < w16.heap.size := by omega
  have le_w4_w16 : w4.heap.size ≤ w16.heap.size := by omega
  try have lt_w4_w16 : w4.heap.size < w16.heap.size := by omega
  have le_w5_w16 : w5.heap.size ≤ w16.heap.size := by omega
  try have lt_w5_w16 : w5.heap.size < w16.heap.size := by omega
  have le_w6_w16 : w6.heap.size ≤ w16.heap.size := by omega
  try have lt_w6_w16 : w6.heap.size < w16.heap.size := by omega
  have le_w7_w16 : w7.heap.size ≤ w16.heap.size := by omega
  try have lt_w7_w16 : w7.heap.size < w16.heap.size := by omega
  have le1_w7_w16 : w7.heap.size + 1 ≤ w16.heap.size := by omega
  try have lt1_w7_w16 : w7.heap.size + 1 < w16.heap.size := by omega
  have le_w8_w16 : w8.heap.size ≤ w16.heap.size := by omega
  try have lt_w8_w16 : w8.heap.size < w16.heap.size := by omega
  have le_w9_w16 : w9.heap.size ≤ w16.heap.size := by omega
  try have lt_w9_w16 : w9.heap.size < w16.heap.size := by omega
  have le_w10_w16 : w10.heap.size ≤ w16.heap.size := by omega
  try have lt_w10_w16 : w10.heap.size < w16.heap.size := by omega
  have le_w11_w16 : w11.heap.size ≤ w16.heap.size := by omega
  try have lt_w11_w16 : w11.heap.size < w16.heap.size := by omega
  have le_w12_w16 : w12.heap.size ≤ w16.heap.size := by omega
  try have lt_w12_w16 : w12.heap.size < w16.heap.size := by omega
  have le_w13_w16 : w13.heap.size ≤ w16.heap.size := by omega
  try have lt_w13_w16 : w13.heap.size < w16.heap.size := by omega
  have le_w14_w16 : w14.heap.size ≤ w16.heap.size := by omega
  try have lt_w14_w16 : w14.heap.size < w16.heap.size := by omega
  have le_w15_w16 : w15.heap.size ≤ w16.heap.size := by omega
  try have lt_w15_w16 : w15.heap.size < w16.heap.size := by omega
  go_wp2_with fail
  go_ret
  exact ⟨rfl, by repeat (first | assumption | exact Below.refl _ _ | (with_reducible refine Below.drew ?_) | (with_reducible refine below_drewN' ?_ _) | (with_reducible refine below_al ?_) | ((with_reducible refine below_set ?_ ?_); rotate_left; focus (first | (simp; done) | (simp; omega))))⟩
theorem thirtyGrows_walk (a b k : Int) (eom : Bool) (k1 : 0 ≤ k) (k2 : k ≤ 255) (w : World) (hL : Laid w) : Calls Tryd.prog 11 #[.agg #[.int .i64 a, .int .i64 b, .int .u8 k, .bool eom]] w fun e w' => e = .returned (.bool true) ∧ Below w.heap.size w w' := by
  by_cases ha : 1 ≤ a ∧ a ≤ 3652059
  · by_cases hb : 1 ≤ b ∧ b ≤ 3652059
    · by_cases hab : b < a
      · exact tgrows_no a b k eom k1 k2 (dayB_in ha.1 ha.2) (dayB_in hb.1 hb.2) hab w hL
      · by_cases hc : 3652059 < b + k
        · exact tgrows_nc a b k eom k1 k2 (dayB_in ha.1 ha.2) (dayB_in hb.1 hb.2) hab hb.1 hb.2 hc w hL
        · have l1 : a ≤ b := by omega
          have l2 : a ≤ b + k := by omega
          have l3 : b ≤ b + k := by omega
          have l4 : b + k ≤ 3652059 := by omega
          have l5 : 1 ≤ b + k := by omega
          have m0 := Thi.us_nn (eom := eom) ha.1 hb.2 l1 (b + k) l3 l4
          have m2 : Thi.eN a b ≤ Thi.eN a (b + k) := by have := Thi.eN_add a b (b + k); have := Thi.eN_nn hb.1 l4 l3; omega
          have m4 : Thi.isN a b 0 ≤ Thi.isN a (b + k) 0 := by have := Thi.isN_add (a := a) (b := b) (c := b + k) hb.1; have := Thi.isN_nn hb.1 l4 l3; omega
          have u0 := Thi.us_bd (eom := eom) ha.1 hb.2 l1
          have u1 := Thi.us_bd (eom := eom) ha.1 l4 l2
          have u2 := Thi.e_bd ha.1 hb.2 l1
          have u3 := Thi.e_bd ha.1 l4 l2
          have u4 := Thi.is_bd (e := 0) ha.1 hb.2 l1
          have u5 := Thi.is_bd (e := 0) ha.1 l4 l2
          have key : ∀ (N z : Int), 1 ≤ z → z ≤ 3652059 → a ≤ z → N ≤ 3600031 → ∃ p d g : Nat, FR (max 0 N).toNat p d ∧ p * g = (max 0 N).toNat ∧ d * g = 360 ∧ 0 < g ∧ (Thi.prN N a z = (p : Int) ∧ Thi.prD N a z = (d : Int) ∧ Thi.prE a z = 0) := by
            intro N z z1 z2 z3 hN
            obtain ⟨p, d, hF, h1, h2, h3⟩ := fr_ex (max 0 N).toNat (by omega)
            obtain ⟨e1, e2, e3⟩ := Thi.pr_ok N ha.1 ha.2 z1 z2 z3
            exact ⟨p, d, _, hF, h1, h2, h3, by rw [e2]; exact hF.1, by rw [e3]; exact hF.2.1, e1⟩
          obtain ⟨p0, d0, g0, F0, i0, j0, q0, H0⟩ := key (Thi.usN a b eom) b hb.1 hb.2 l1 u0
          obtain ⟨p1, d1, g1, F1, i1, j1, q1, H1⟩ := key (Thi.usN a (b + k) eom) (b + k) l5 l4 l2 u1
          obtain ⟨p2, d2, g2, F2, i2, j2, q2, H2⟩ := key (Thi.eN a b) b hb.1 hb.2 l1 u2
          obtain ⟨p3, d3, g3, F3, i3, j3, q3, H3⟩ := key (Thi.eN a (b + k)) (b + k) l5 l4 l2 u3
          obtain ⟨p4, d4, g4, F4, i4, j4, q4, H4⟩ := key (Thi.isN a b 0) b hb.1 hb.2 l1 u4.2
          obtain ⟨p5, d5, g5, F5, i5, j5, q5, H5⟩ := key (Thi.isN a (b + k) 0) (b + k) l5 l4 l2 u5.2
          exact tgrows_ok a b k eom (b + k) _ _ _ _ p0 d0 _ p1 d1 _ p2 d2 _ p3 d3 _ p4 d4 _ p5 d5 k1 k2 (dayB_in ha.1 ha.2) (dayB_in hb.1 hb.2) hab hb.1 hb.2 hc rfl (Lib.hid H0) (Lib.hid F0) (Lib.hid H1) (Lib.hid F1) (Lib.hid H2) (Lib.hid F2) (Lib.hid H3) (Lib.hid F3) (Lib.hid H4) (Lib.hid F4) (Lib.hid H5) (Lib.hid F5)
            (Lib.hid rfl) (cmpI_le (fr_mono i0 j0 i1 j1 q0 q1 (by omega))) (Lib.hid rfl) (cmpI_le (fr_mono i2 j2 i3 j3 q2 q3 (by omega))) (Lib.hid rfl) (cmpI_le (fr_mono i4 j4 i5 j5 q4 q5 (by omega))) w hL
    · exact tgrows_nb a b k eom k1 k2 (dayB_in ha.1 ha.2) (dayB_no hb) w hL
  · exact tgrows_na a b k eom k1 k2 (dayB_no ha) w hL
end Go.Proofs.YtjcjchapfiokeaaDoor
