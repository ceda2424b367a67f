/- The walk of ThirtyAdds: the law returns true for every input. Conditions: the table of months' lengths lies as the program's text lays it. -/
import Derived.Test.YtjcjchapfiokeaaDoorThiS
import Derived.Test.YtjcjchapfiokeaaDoorFra
namespace Go.Proofs.YtjcjchapfiokeaaDoor
open Go.RowKit
set_option linter.unusedVariables false
theorem fr_add {n m p d q e : Nat} (hF : FR n p d) (hG : FR m q e) (P D : Int) (h : Thi.rN (p * e + q * d) (d * e) = P ∧ Thi.rD (p * e + q * d) (d * e) = D) (hp : p ≤ 4000000) (hq : q ≤ 4000000) (w : World) : Calls Tryd.prog 40 #[.agg #[.int .i64 (p : Int), .int .i64 (d : Int)], .agg #[.int .i64 (q : Int), .int .i64 (e : Int)]] w fun r w' => r = .returned (.tuple #[.agg #[.int .i64 P, .int .i64 D], .int .i64 0]) ∧ Below w.heap.size w w' := by
  have b1 := hF.2.2.2.2.1; have b2 := hG.2.2.2.2.1
  have t1 : p * e ≤ 4000000 * 360 := Nat.mul_le_mul hp b2
  have t2 : q * d ≤ 4000000 * 360 := Nat.mul_le_mul hq b1
  have t3 : d * e ≤ 360 * 360 := Nat.mul_le_mul b1 b2
  have g := dadd_c p d q e hF.2.2.1 (by omega) hG.2.2.1 (by omega) (Nat.mul_pos hF.2.2.2.1 hG.2.2.2.1) (Lib.hid ⟨Nat.le_trans (Nat.div_le_self _ _) (by omega), Nat.le_trans (Nat.div_le_self _ _) (by omega)⟩) w
  rw [h.1, h.2] at g; exact g
theorem fr_sum {n m p d q e g k : Nat} (hn : p * g = n) (hd : d * g = 360) (hm : q * k = m) (he : e * k = 360) (hg : 0 < g) (hk : 0 < k) : Thi.rN (p * e + q * d) (d * e) = Thi.rN (n + m) 360 ∧ Thi.rD (p * e + q * d) (d * e) = Thi.rD (n + m) 360 := by
  have s1 := Thi.r_scale (g * k) (p * e + q * d) (d * e) (Nat.mul_pos hg hk)
  have s2 := Thi.r_scale 360 (n + m) 360 (by decide)
  have e1 : g * k * (p * e + q * d) = 360 * (n + m) := by
    have h1 : g * k * (p * e) = 360 * n := by rw [← hn, ← he]; simp [Nat.mul_comm, Nat.mul_left_comm]
    have h2 : g * k * (q * d) = 360 * m := by rw [← hm, ← hd]; simp [Nat.mul_comm, Nat.mul_left_comm]
    rw [Nat.mul_add, h1, h2, Nat.mul_add]
  have e2 : g * k * (d * e) = 360 * 360 := by
    have : g * k * (d * e) = (d * g) * (e * k) := by simp [Nat.mul_comm, Nat.mul_left_comm]
    rw [this, hd, he]
  rw [e1, e2] at s1
  exact ⟨s1.1.symm.trans s2.1, s1.2.symm.trans s2.2⟩
set_option maxRecDepth 100000 in
set_option maxHeartbeats 16000000 in
theorem tadds_na (a b c : Int)  (h : dayB a = false) (w : World) (hL : Laid w) : Calls Tryd.prog 13 #[.int .i64 a, .int .i64 b, .int .i64 c] w fun e w' => e = .returned (.bool true) ∧ Below w.heap.size w w' := by
  have hB : Below w.heap.size w w := Below.refl _ _
  go_enter Tryd.func13, Tryd.ntmps13
  go_wp2_with fail
  refine (shown07_c _ (hL.below (by repeat (first | assumption | exact Below.refl _ _ | (with_reducible refine Below.drew ?_) | (with_reducible refine below_drewN' ?_ _) | (with_reducible refine below_al ?_) | ((with_reducible refine below_set ?_ ?_); rotate_left; focus (first | (simp; done) | (simp; omega))))))).mono ?_; rintro e w1 ⟨rfl, hb1⟩
  have hz1 := hb1.size; (try simp at hz1); obtain ⟨hc1, hf1⟩ := bcell hb1; have hB1 := below_step (w := w) hb1 (by repeat (first | assumption | exact Below.refl _ _ | (with_reducible refine Below.drew ?_) | (with_reducible refine below_drewN' ?_ _) | (with_reducible refine below_al ?_) | ((with_reducible refine below_set ?_ ?_); rotate_left; focus (first | (simp; done) | (simp; omega)))))
  have le_w_w1 : w.heap.size ≤ w1.heap.size := by omega
  try have lt_w_w1 : w.heap.size < w1.heap.size := by omega
  go_wp2_with fail
  refine (rday_c _ _).mono ?_; rintro e w' ⟨rfl, rfl⟩
  rw [h]
  go_wp2_with fail
  go_ret
  exact ⟨rfl, by repeat (first | assumption | exact Below.refl _ _ | (with_reducible refine Below.drew ?_) | (with_reducible refine below_drewN' ?_ _) | (with_reducible refine below_al ?_) | ((with_reducible refine below_set ?_ ?_); rotate_left; focus (first | (simp; done) | (simp; omega))))⟩
set_option maxRecDepth 100000 in
set_option maxHeartbeats 16000000 in
theorem tadds_nb (a b c : Int)  (h : dayB a = true) (h' : dayB b = false) (w : World) (hL : Laid w) : Calls Tryd.prog 13 #[.int .i64 a, .int .i64 b, .int .i64 c] w fun e w' => e = .returned (.bool true) ∧ Below w.heap.size w w' := by
  have hB : Below w.heap.size w w := Below.refl _ _
  go_enter Tryd.func13, Tryd.ntmps13
  go_wp2_with fail
  refine (shown07_c _ (hL.below (by repeat (first | assumption | exact Below.refl _ _ | (with_reducible refine Below.drew ?_) | (with_reducible refine below_drewN' ?_ _) | (with_reducible refine below_al ?_) | ((with_reducible refine below_set ?_ ?_); rotate_left; focus (first | (simp; done) | (simp; omega))))))).mono ?_; rintro e w1 ⟨rfl, hb1⟩
  have hz1 := hb1.size; (try simp at hz1); obtain ⟨hc1, hf1⟩ := bcell hb1; have hB1 := below_step (w := w) hb1 (by repeat (first | assumption | exact Below.refl _ _ | (with_reducible refine Below.drew ?_) | (with_reducible refine below_drewN' ?_ _) | (with_reducible refine below_al ?_) | ((with_reducible refine below_set ?_ ?_); rotate_left; focus (first | (simp; done) | (simp; omega)))))
  have le_w_w1 : w.heap.size ≤ w1.heap.size := by omega
  try have lt_w_w1 : w.heap.size < w1.heap.size := by omega
  go_wp2_with fail
  refine (rday_c _ _).mono ?_; rintro e w' ⟨rfl, rfl⟩
  rw [h]
  go_wp2_with fail
  refine (rday_c _ _).mono ?_; rintro e w' ⟨rfl, rfl⟩
  rw [h']
  go_wp2_with fail
  go_ret
  exact ⟨rfl, by repeat (first | assumption | exact Below.refl _ _ | (with_reducible refine Below.drew ?_) | (with_reducible refine below_drewN' ?_ _) | (with_reducible refine below_al ?_) | ((with_reducible refine below_set ?_ ?_); rotate_left; focus (first | (simp; done) | (simp; omega))))⟩
set_option maxRecDepth 100000 in
set_option maxHeartbeats 16000000 in
theorem tadds_nc (a b c : Int)  (h : dayB a = true) (h' : dayB b = true) (h'' : dayB c = false) (w : World) (hL : Laid w) : Calls Tryd.prog 13 #[.int .i64 a, .int .i64 b, .int .i64 c] w fun e w' => e = .returned (.bool true) ∧ Below w.heap.size w w' := by
  have hB : Below w.heap.size w w := Below.refl _ _
  go_enter Tryd.func13, Tryd.ntmps13
  go_wp2_with fail
  refine (shown07_c _ (hL.below (by repeat (first | assumption | exact Below.refl _ _ | (with_reducible refine Below.drew ?_) | (with_reducible refine below_drewN' ?_ _) | (with_reducible refine below_al ?_) | ((with_reducible refine below_set ?_ ?_); rotate_left; focus (first | (simp; done) | (simp; omega))))))).mono ?_; rintro e w1 ⟨rfl, hb1⟩
  have hz1 := hb1.size; (try simp at hz1); obtain ⟨hc1, hf1⟩ := bcell hb1; have hB1 := below_step (w := w) hb1 (by repeat (first | assumption | exact Below.refl _ _ | (with_reducible refine Below.drew ?_) | (with_reducible refine below_drewN' ?_ _) | (with_reducible refine below_al ?_) | ((with_reducible refine below_set ?_ ?_); rotate_left; focus (first | (simp; done) | (simp; omega)))))
  have le_w_w1 : w.heap.size ≤ w1.heap.size := by omega
  try have lt_w_w1 : w.heap.size < w1.heap.size := by omega
  go_wp2_with fail
  refine (rday_c _ _).mono ?_; rintro e w' ⟨rfl, rfl⟩
  rw [h]
  go_wp2_with fail
  refine (rday_c _ _).mono ?_; rintro e w' ⟨rfl, rfl⟩
  rw [h']
  go_wp2_with fail
  refine (rday_c _ _).mono ?_; rintro e w' ⟨rfl, rfl⟩
  rw [h'']
  go_wp2_with fail
  go_ret
  exact ⟨rfl, by repeat (first | assumption | exact Below.refl _ _ | (with_reducible refine Below.drew ?_) | (with_reducible refine below_drewN' ?_ _) | (with_reducible refine below_al ?_) | ((with_reducible refine below_set ?_ ?_); rotate_left; focus (first | (simp; done) | (simp; omega))))⟩
set_option maxRecDepth 100000 in
set_option maxHeartbeats 16000000 in
theorem tadds_o1 (a b c : Int)  (h : dayB a = true) (h' : dayB b = true) (h'' : dayB c = true) (hab : b < a) (w : World) (hL : Laid w) : Calls Tryd.prog 13 #[.int .i64 a, .int .i64 b, .int .i64 c] w fun e w' => e = .returned (.bool true) ∧ Below w.heap.size w w' := by
  have hB : Below w.heap.size w w := Below.refl _ _
  go_enter Tryd.func13, Tryd.ntmps13
  go_wp2_with fail
  refine (shown07_c _ (hL.below (by repeat (first | assumption | exact Below.refl _ _ | (with_reducible refine Below.drew ?_) | (with_reducible refine below_drewN' ?_ _) | (with_reducible refine below_al ?_) | ((with_reducible refine below_set ?_ ?_); rotate_left; focus (first | (simp; done) | (simp; omega))))))).mono ?_; rintro e w1 ⟨rfl, hb1⟩
  have hz1 := hb1.size; (try simp at hz1); obtain ⟨hc1, hf1⟩ := bcell hb1; have hB1 := below_step (w := w) hb1 (by repeat (first | assumption | exact Below.refl _ _ | (with_reducible refine Below.drew ?_) | (with_reducible refine below_drewN' ?_ _) | (with_reducible refine below_al ?_) | ((with_reducible refine below_set ?_ ?_); rotate_left; focus (first | (simp; done) | (simp; omega)))))
  have le_w_w1 : w.heap.size ≤ w1.heap.size := by omega
  try have lt_w_w1 : w.heap.size < w1.heap.size := by omega
  go_wp2_with fail
  refine (rday_c _ _).mono ?_; rintro e w' ⟨rfl, rfl⟩
  rw [h]
  go_wp2_with fail
  refine (rday_c _ _).mono ?_; rintro e w' ⟨rfl, rfl⟩
  rw [h']
  go_wp2_with fail
  refine (rday_c _ _).mono ?_; rintro e w' ⟨rfl, rfl⟩
  rw [h'']
  go_wp2_with fail
  go_ret
  exact ⟨rfl, by repeat (first | assumption | exact Below.refl _ _ | (with_reducible refine Below.drew ?_) | (with_reducible refine below_drewN' ?_ _) | (with_reducible refine below_al ?_) | ((with_reducible refine below_set ?_ ?_); rotate_left; focus (first | (simp; done) | (simp; omega))))⟩
set_option maxRecDepth 100000 in
set_option maxHeartbeats 16000000 in
theorem tadds_o2 (a b c : Int)  (h : dayB a = true) (h' : dayB b = true) (h'' : dayB c = true) (hab : ¬ b < a) (hbc : c < b) (w : World) (hL : Laid w) : Calls Tryd.prog 13 #[.int .i64 a, .int .i64 b, .int .i64 c] w fun e w' => e = .returned (.bool true) ∧ Below w.heap.size w w' := by
  have hB : Below w.heap.size w w := Below.refl _ _
  go_enter Tryd.func13, Tryd.ntmps13
  go_wp2_with fail
  refine (shown07_c _ (hL.below (by repeat (first | assumption | exact Below.refl _ _ | (with_reducible refine Below.drew ?_) | (with_reducible refine below_drewN' ?_ _) | (with_reducible refine below_al ?_) | ((with_reducible refine below_set ?_ ?_); rotate_left; focus (first | (simp; done) | (simp; omega))))))).mono ?_; rintro e w1 ⟨rfl, hb1⟩
  have hz1 := hb1.size; (try simp at hz1); obtain ⟨hc1, hf1⟩ := bcell hb1; have hB1 := below_step (w := w) hb1 (by repeat (first | assumption | exact Below.refl _ _ | (with_reducible refine Below.drew ?_) | (with_reducible refine below_drewN' ?_ _) | (with_reducible refine below_al ?_) | ((with_reducible refine below_set ?_ ?_); rotate_left; focus (first | (simp; done) | (simp; omega)))))
  have le_w_w1 : w.heap.size ≤ w1.heap.size := by omega
  try have lt_w_w1 : w.heap.size < w1.heap.size := by omega
  go_wp2_with fail
  refine (rday_c _ _).mono ?_; rintro e w' ⟨rfl, rfl⟩
  rw [h]
  go_wp2_with fail
  refine (rday_c _ _).mono ?_; rintro e w' ⟨rfl, rfl⟩
  rw [h']
  go_wp2_with fail
  refine (rday_c _ _).mono ?_; rintro e w' ⟨rfl, rfl⟩
  rw [h'']
  go_wp2_with fail
  go_ret
  exact ⟨rfl, by repeat (first | assumption | exact Below.refl _ _ | (with_reducible refine Below.drew ?_) | (with_reducible refine below_drewN' ?_ _) | (with_reducible refine below_al ?_) | ((with_reducible refine below_set ?_ ?_); rotate_left; focus (first | (simp; done) | (simp; omega))))⟩
set_option maxRecDepth 100000 in
set_option maxHeartbeats 16000000 in
theorem tadds_ok (a b c : Int) (P0 D0 P2 D2 : Int) (n0 p0 d0 n1 p1 d1 n2 p2 d2 n3 p3 d3 : Nat) (h : dayB a = true) (h' : dayB b = true) (h'' : dayB c = true) (hab : ¬ b < a) (hbc : ¬ c < b) (H0 : Hid (Thi.prN (Thi.eN a b) a b = (p0 : Int) ∧ Thi.prD (Thi.eN a b) a b = (d0 : Int) ∧ Thi.prE a b = 0)) (F0 : Hid (FR n0 p0 d0)) (b0 : p0 ≤ 4000000) (H1 : Hid (Thi.prN (Thi.eN b c) b c = (p1 : Int) ∧ Thi.prD (Thi.eN b c) b c = (d1 : Int) ∧ Thi.prE b c = 0)) (F1 : Hid (FR n1 p1 d1)) (b1 : p1 ≤ 4000000) (H2 : Hid (Thi.prN (Thi.isN a b 0) a b = (p2 : Int) ∧ Thi.prD (Thi.isN a b 0) a b = (d2 : Int) ∧ Thi.prE a b = 0)) (F2 : Hid (FR n2 p2 d2)) (b2 : p2 ≤ 4000000) (H3 : Hid (Thi.prN (Thi.isN b c 0) b c = (p3 : Int) ∧ Thi.prD (Thi.isN b c 0) b c = (d3 : Int) ∧ Thi.prE b c = 0)) (F3 : Hid (FR n3 p3 d3)) (b3 : p3 ≤ 4000000) (K0 : Hid (Thi.prN (Thi.eN a c) a c = P0 ∧ Thi.prD (Thi.eN a c) a c = D0 ∧ Thi.prE a c = 0)) (K2 : Hid (Thi.prN (Thi.isN a c 0) a c = P2 ∧ Thi.prD (Thi.isN a c 0) a c = D2 ∧ Thi.prE a c = 0)) (S0 : Hid (Thi.rN (p0 * d1 + p1 * d0) (d0 * d1) = P0 ∧ Thi.rD (p0 * d1 + p1 * d0) (d0 * d1) = D0)) (S2 : Hid (Thi.rN (p2 * d3 + p3 * d2) (d2 * d3) = P2 ∧ Thi.rD (p2 * d3 + p3 * d2) (d2 * d3) = D2)) (w : World) (hL : Laid w) : Calls Tryd.prog 13 #[.int .i64 a, .int .i64 b, .int .i64 c] w fun e w' => e = .returned (.bool true) ∧ Below w.heap.size w w' := by
  have hB : Below w.heap.size w w := Below.refl _ _
  go_enter Tryd.func13, Tryd.ntmps13
  go_wp2_with fail
  refine (shown07_c _ (hL.below (by repeat (first | assumption | exact Below.refl _ _ | (with_reducible refine Below.drew ?_) | (with_reducible refine below_drewN' ?_ _) | (with_reducible refine below_al ?_) | ((with_reducible refine below_set ?_ ?_); rotate_left; focus (first | (simp; done) | (simp; omega))))))).mono ?_; rintro e w1 ⟨rfl, hb1⟩
  have hz1 := hb1.size; (try simp at hz1); obtain ⟨hc1, hf1⟩ := bcell hb1; have hB1 := below_step (w := w) hb1 (by repeat (first | assumption | exact Below.refl _ _ | (with_reducible refine Below.drew ?_) | (with_reducible refine below_drewN' ?_ _) | (with_reducible refine below_al ?_) | ((with_reducible refine below_set ?_ ?_); rotate_left; focus (first | (simp; done) | (simp; omega)))))
  have le_w_w1 : w.heap.size ≤ w1.heap.size := by omega
  try have lt_w_w1 : w.heap.size < w1.heap.size := by omega
  go_wp2_with fail
  refine (rday_c _ _).mono ?_; rintro e w' ⟨rfl, rfl⟩
  rw [h]
  go_wp2_with fail
  refine (rday_c _ _).mono ?_; rintro e w' ⟨rfl, rfl⟩
  rw [h']
  go_wp2_with fail
  refine (rday_c _ _).mono ?_; rintro e w' ⟨rfl, rfl⟩
  rw [h'']
  go_wp2_with fail
  refine (pr_at H0.out (te_c _ _ _ (hL.below (by repeat (first | assumption | exact Below.refl _ _ | (with_reducible refine Below.drew ?_) | (with_reducible refine below_drewN' ?_ _) | (with_reducible refine below_al ?_) | ((with_reducible refine below_set ?_ ?_); rotate_left; focus (first | (simp; done) | (simp; omega)))))))).mono ?_; rintro e w2 ⟨rfl, hb2⟩
  have hz2 := hb2.size; (try simp at hz2); obtain ⟨hc2, hf2⟩ := bcell hb2; have hB2 := below_step (w := w) hb2 (by repeat (first | assumption | exact Below.refl _ _ | (with_reducible refine Below.drew ?_) | (with_reducible refine below_drewN' ?_ _) | (with_reducible refine below_al ?_) | ((with_reducible refine below_set ?_ ?_); rotate_left; focus (first | (simp; done) | (simp; omega)))))
  have le_w_w2 : w.heap.size ≤ w2.heap.size := by omega
  try have lt_w_w2 : w.heap.size < w2.heap.size := by omega
  have le_w1_w2 : w1.heap.size ≤ w2.heap.size := by omega
  try have lt_w1_w2 : w1.heap.size < w2.heap.size := by omega
  go_wp2_with fail
  refine (pr_at H1.out (te_c _ _ _ (hL.below (by repeat (first | assumption | exact Below.refl _ _ | (with_reducible refine Below.drew ?_) | (with_reducible refine below_drewN' ?_ _) | (with_reducible refine below_al ?_) | ((with_reducible refine below_set ?_ ?_); rotate_left; focus (first | (simp; done) | (simp; omega)))))))).mono ?_; rintro e w3 ⟨rfl, hb3⟩
  have hz3 := hb3.size; (try simp at hz3); obtain ⟨hc3, hf3⟩ := bcell hb3; have hB3 := below_step (w := w) hb3 (by repeat (first | assumption | exact Below.refl _ _ | (with_reducible refine Below.drew ?_) | (with_reducible refine below_drewN' ?_ _) | (with_reducible refine below_al ?_) | ((with_reducible refine below_set ?_ ?_); rotate_left; focus (first | (simp; done) | (simp; omega)))))
  have le_w_w3 : w.heap.size ≤ w3.heap.size := by omega
  try have lt_w_w3 : w.heap.size < w3.heap.size := by omega
  have le_w1_w3 : w1.heap.size ≤ w3.heap.size := by omega
  try have lt_w1_w3 : w1.heap.size < w3.heap.size := by omega
  have le_w2_w3 : w2.heap.size ≤ w3.heap.size := by omega
  try have lt_w2_w3 : w2.heap.size < w3.heap.size := by omega
  go_wp2_with fail
  refine (pr_at K0.out (te_c _ _ _ (hL.below (by repeat (first | assumption | exact Below.refl _ _ | (with_reducible refine Below.drew ?_) | (with_reducible refine below_drewN' ?_ _) | (with_reducible refine below_al ?_) | ((with_reducible refine below_set ?_ ?_); rotate_left; focus (first | (simp; done) | (simp; omega)))))))).mono ?_; rintro e w4 ⟨rfl, hb4⟩
  have hz4 := hb4.size; (try simp at hz4); obtain ⟨hc4, hf4⟩ := bcell hb4; have hB4 := below_step (w := w) hb4 (by repeat (first | assumption | exact Below.refl _ _ | (with_reducible refine Below.drew ?_) | (with_reducible refine below_drewN' ?_ _) | (with_reducible refine below_al ?_) | ((with_reducible refine below_set ?_ ?_); rotate_left; focus (first | (simp; done) | (simp; omega)))))
  have le_w_w4 : w.heap.size ≤ w4.heap.size := by omega
  try have lt_w_w4 : w.heap.size < w4.heap.size := by omega
  have le_w1_w4 : w1.heap.size ≤ w4.heap.size := by omega
  try have lt_w1_w4 : w1.heap.size < w4.heap.size := by omega
  have le_w2_w4 : w2.heap.size ≤ w4.heap.size := by omega
  try have lt_w2_w4 : w2.heap.size < w4.heap.size := by omega
  have le_w3_w4 : w3.heap.size ≤ w4.heap.size := by omega
  try have lt_w3_w4 : w3.heap.size < w4.heap.size := by omega
  go_wp2_with fail
  refine (pr_at H2.out (tis_c _ _ _ _ (hL.below (by repeat (first | assumption | exact Below.refl _ _ | (with_reducible refine Below.drew ?_) | (with_reducible refine below_drewN' ?_ _) | (with_reducible refine below_al ?_) | ((with_reducible refine below_set ?_ ?_); rotate_left; focus (first | (simp; done) | (simp; omega)))))))).mono ?_; rintro e w5 ⟨rfl, hb5⟩
  have hz5 := hb5.size; (try simp at hz5); obtain ⟨hc5, hf5⟩ := bcell hb5; have hB5 := below_step (w := w) hb5 (by repeat (first | assumption | exact Below.refl _ _ | (with_reducible refine Below.drew ?_) | (with_reducible refine below_drewN' ?_ _) | (with_reducible refine below_al ?_) | ((with_reducible refine below_set ?_ ?_); rotate_left; focus (first | (simp; done) | (simp; omega)))))
  have le_w_w5 : w.heap.size ≤ w5.heap.size := by omega
  try have lt_w_w5 : w.heap.size < w5.heap.size := by omega
  have le_w1_w5 : w1.heap.size ≤ w5.heap.size := by omega
  try have lt_w1_w5 : w1.heap.size < w5.heap.size := by omega
  have le_w2_w5 : w2.heap.size ≤ w5.heap.size := by omega
  try have lt_w2_w5 : w2.heap.size < w5.heap.size := by omega
  have le_w3_w5 : w3.heap.size ≤ w5.heap.size := by omega
  try have lt_w3_w5 : w3.heap.size < w5.heap.size := by omega
  have le_w4_w5 : w4.heap.size ≤ w5.heap.size := by omega
  try have lt_w4_w5 : w4.heap.size < w5.heap.size := by omega
  go_wp2_with fail
  refine (pr_at H3.out (tis_c _ _ _ _ (hL.below (by repeat (first | assumption | exact Below.refl _ _ | (with_reducible refine Below.drew ?_) | (with_reducible refine below_drewN' ?_ _) | (with_reducible refine below_al ?_) | ((with_reducible refine below_set ?_ ?_); rotate_left; focus (first | (simp; done) | (simp; omega)))))))).mono ?_; rintro e w6 ⟨rfl, hb6⟩
  have hz6 := hb6.size; (try simp at hz6); obtain ⟨hc6, hf6⟩ := bcell hb6; have hB6 := below_step (w := w) hb6 (by repeat (first | assumption | exact Below.refl _ _ | (with_reducible refine Below.drew ?_) | (with_reducible refine below_drewN' ?_ _) | (with_reducible refine below_al ?_) | ((with_reducible refine below_set ?_ ?_); rotate_left; focus (first | (simp; done) | (simp; omega)))))
  have le_w_w6 : w.heap.size ≤ w6.heap.size := by omega
  try have lt_w_w6 : w.heap.size < w6.heap.size := by omega
  have le_w1_w6 : w1.heap.size ≤ w6.heap.size := by omega
  try have lt_w1_w6 : w1.heap.size < w6.heap.size := by omega
  have le_w2_w6 : w2.heap.size ≤ w6.heap.size := by omega
  try have lt_w2_w6 : w2.heap.size < w6.heap.size := by omega
  have le_w3_w6 : w3.heap.size ≤ w6.heap.size := by omega
  try have lt_w3_w6 : w3.heap.size < w6.heap.size := by omega
  have le_w4_w6 : w4.heap.size ≤ w6.heap.size := by omega
  try have lt_w4_w6 : w4.heap.size < w6.heap.size := by omega
  have le_w5_w6 : w5.heap.size ≤ w6.heap.size := by omega
  try have lt_w5_w6 : w5.heap.size < w6.heap.size := by omega
  go_wp2_with fail
  refine (pr_at K2.out (tis_c _ _ _ _ (hL.below (by repeat (first | assumption | exact Below.refl _ _ | (with_reducible refine Below.drew ?_) | (with_reducible refine below_drewN' ?_ _) | (with_reducible refine below_al ?_) | ((with_reducible refine below_set ?_ ?_); rotate_left; focus (first | (simp; done) | (simp; omega)))))))).mono ?_; rintro e w7 ⟨rfl, hb7⟩
  have hz7 := hb7.size; (try simp at hz7); obtain ⟨hc7, hf7⟩ := bcell hb7; have hB7 := below_step (w := w) hb7 (by repeat (first | assumption | exact Below.refl _ _ | (with_reducible refine Below.drew ?_) | (with_reducible refine below_drewN' ?_ _) | (with_reducible refine below_al ?_) | ((with_reducible refine below_set ?_ ?_); rotate_left; focus (first | (simp; done) | (simp; omega)))))
  have le_w_w7 : w.heap.size ≤ w7.heap.size := by omega
  try have lt_w_w7 : w.heap.size < w7.heap.size := by omega
  have le_w1_w7 : w1.heap.size ≤ w7.heap.size := by omega
  try have lt_w1_w7 : w1.heap.size < w7.heap.size := by omega
  have le_w2_w7 : w2.heap.size ≤ w7.heap.size := by omega
  try have lt_w2_w7 : w2.heap.size < w7.heap.size := by omega
  have le_w3_w7 : w3.heap.size ≤ w7.heap.size := by omega
  try have lt_w3_w7 : w3.heap.size < w7.heap.size := by omega
  have le_w4_w7 : w4.heap.size ≤ w7.heap.size := by omega
  try have lt_w4_w7 : w4.heap.size < w7.heap.size := by omega
  have le_w5_w7 : w5.heap.size ≤ w7.heap.size := by omega
  try have lt_w5_w7 : w5.heap.size < w7.heap.size := by omega
  have le_w6_w7 : w6.heap.size ≤ w7.heap.size := by omega
  try have lt_w6_w7 : w6.heap.size < w7.heap.size := by omega
  go_wp2_with fail
  refine (fr_add F0.out F1.out P0 D0 S0.out b0 b1 _).mono ?_; rintro e w8 ⟨rfl, hb8⟩
  have hz8 := hb8.size; (try simp at hz8); obtain ⟨hc8, hf8⟩ := bcell hb8; have hB8 := below_step (w := w) hb8 (by repeat (first | assumption | exact Below.refl _ _ | (with_reducible refine Below.drew ?_) | (with_reducible refine below_drewN' ?_ _) | (with_reducible refine below_al ?_) | ((with_reducible refine below_set ?_ ?_); rotate_left; focus (first | (simp; done) | (simp; omega)))))
  have le_w_w8 : w.heap.size ≤ w8.heap.size := by omega
  try have lt_w_w8 : w.heap.size < w8.heap.size := by omega
  have le_w1_w8 : w1.heap.size ≤ w8.heap.size := by omega
  try have lt_w1_w8 : w1.heap.size < w8.heap.size := by omega
  have le_w2_w8 : w2.heap.size ≤ w8.heap.size := by omega
  try have lt_w2_w8 : w2.heap.size < w8.heap.size := by omega
  have le_w3_w8 : w3.heap.size ≤ w8.heap.size := by omega
  try have lt_w3_w8 : w3.heap.size < w8.heap.size := by omega
  have le_w4_w8 : w4.heap.size ≤ w8.heap.size := by omega
  try have lt_w4_w8 : w4.heap.size < w8.heap.size := by omega
  have le_w5_w8 : w5.heap.size ≤ w8.heap.size := by omega
  try have lt_w5_w8 : w5.heap.size < w8.heap.size := by omega
  have le_w6_w8 : w6.heap.size ≤ w8.heap.size := by omega
  try have lt_w6_w8 : w6.heap.size < w8.heap.size := by omega
  have le_w7_w8 : w7.heap.size ≤ w8.heap.size := by omega
  try have lt_w7_w8 : w7.heap.size < w8.heap.size := by omega
  go_wp2_with fail
  refine (fr_add F2.out F3.out P2 D2 S2.out b2 b3 _).mono ?_; rintro e w9 ⟨rfl, hb9⟩
  have hz9 := hb9.size; (try simp at hz9); obtain ⟨hc9, hf9⟩ := bcell hb9; have hB9 := below_step (w := w) hb9 (by repeat (first | assumption | exact Below.refl _ _ | (with_reducible refine Below.drew ?_) | (with_reducible refine below_drewN' ?_ _) | (with_reducible refine below_al ?_) | ((with_reducible refine below_set ?_ ?_); rotate_left; focus (first | (simp; done) | (simp; omega)))))
  have le_w_w9 : w.heap.size ≤ w9.heap.size := by omega
  try have lt_w_w9 : w.heap.size < w9.heap.size := by omega
  have le_w1_w9 : w1.heap.size ≤ w9.heap.size := by omega
  try have lt_w1_w9 : w1.heap.size < w9.heap.size := by omega
  have le_w2_w9 : w2.heap.size ≤ w9.heap.size := by omega
  try have lt_w2_w9 : w2.heap.size < w9.heap.size := by omega
  have le_w3_w9 : w3.heap.size ≤ w9.heap.size := by omega
  try have lt_w3_w9 : w3.heap.size < w9.heap.size := by omega
  have le_w4_w9 : w4.heap.size ≤ w9.heap.size := by omega
  try have lt_w4_w9 : w4.heap.size < w9.heap.size := by omega
  have le_w5_w9 : w5.heap.size ≤ w9.heap.size := by omega
  try have lt_w5_w9 : w5.heap.size < w9.heap.size := by omega
  have le_w6_w9 : w6.heap.size ≤ w9.heap.size := by omega
  try have lt_w6_w9 : w6.heap.size < w9.heap.size := by omega
  have le_w7_w9 : w7.heap.size ≤ w9.heap.size := by omega
  try have lt_w7_w9 : w7.heap.size < w9.heap.size := by omega
  have le_w8_w9 : w8.heap.size ≤ w9.heap.size := by omega
  try have lt_w8_w9 : w8.heap.size < w9.heap.size := by omega
  go_wp2_with fail
  go_ret
  exact ⟨rfl, by repeat (first | assumption | exact Below.refl _ _ | (with_reducible refine Below.drew ?_) | (with_reducible refine below_drewN' ?_ _) | (with_reducible refine below_al ?_) | ((with_reducible refine below_set ?_ ?_); rotate_left; focus (first | (simp; done) | (simp; omega))))⟩
theorem thirtyAdds_walk (a b c : Int) (w : World) (hL : Laid w) : Calls Tryd.prog 13 #[.int .i64 a, .int .i64 b, .int .i64 c] w fun e w' => e = .returned (.bool true) ∧ Below w.heap.size w w' := by
  by_cases ha : 1 ≤ a ∧ a ≤ 3652059
  · by_cases hb : 1 ≤ b ∧ b ≤ 3652059
    · by_cases hc : 1 ≤ c ∧ c ≤ 3652059
      · have da := dayB_in ha.1 ha.2; have db := dayB_in hb.1 hb.2; have dc := dayB_in hc.1 hc.2
        by_cases hab : b < a
        · exact tadds_o1 a b c da db dc hab w hL
        · by_cases hbc : c < b
          · exact tadds_o2 a b c da db dc hab hbc w hL
          · have l1 : a ≤ b := by omega
            have l2 : b ≤ c := by omega
            have l3 : a ≤ c := by omega
            have u0 := Thi.e_bd ha.1 hb.2 l1; have u1 := Thi.e_bd hb.1 hc.2 l2
            have u2 := Thi.is_bd (e := 0) ha.1 hb.2 l1; have u3 := Thi.is_bd (e := 0) hb.1 hc.2 l2
            have v0 := Thi.eN_nn ha.1 hb.2 l1; have v1 := Thi.eN_nn hb.1 hc.2 l2
            have v2 := Thi.isN_nn ha.1 hb.2 l1; have v3 := Thi.isN_nn hb.1 hc.2 l2
            have s0 := Thi.eN_add a b c; have s2 := Thi.isN_add (a := a) (b := b) (c := c) hb.1
            have key : ∀ (N y z : Int), 1 ≤ y → y ≤ 3652059 → 1 ≤ z → z ≤ 3652059 → y ≤ z → 0 ≤ N → N ≤ 3600031 → ∃ p d g : Nat, FR N.toNat p d ∧ p * g = N.toNat ∧ d * g = 360 ∧ 0 < g ∧ p ≤ 4000000 ∧ (Thi.prN N y z = (p : Int) ∧ Thi.prD N y z = (d : Int) ∧ Thi.prE y z = 0) := by
              intro N y z y1 y2 z1 z2 hyz hN hN2
              obtain ⟨p, d, hF, h1, h2, h3⟩ := fr_ex N.toNat (by omega)
              obtain ⟨e1, e2, e3⟩ := Thi.pr_ok N y1 y2 z1 z2 hyz
              have hm : max 0 N = N := by omega
              rw [hm] at e2 e3
              have hp : p ≤ p * Nat.gcd N.toNat 360 := Nat.le_mul_of_pos_right p h3
              exact ⟨p, d, _, hF, h1, h2, h3, by omega, by rw [e2]; exact hF.1, by rw [e3]; exact hF.2.1, e1⟩
            obtain ⟨p0, d0, g0, F0, i0, j0, q0, r0, H0⟩ := key (Thi.eN a b) a b ha.1 ha.2 hb.1 hb.2 l1 v0 u0
            obtain ⟨p1, d1, g1, F1, i1, j1, q1, r1, H1⟩ := key (Thi.eN b c) b c hb.1 hb.2 hc.1 hc.2 l2 v1 u1
            obtain ⟨p2, d2, g2, F2, i2, j2, q2, r2, H2⟩ := key (Thi.isN a b 0) a b ha.1 ha.2 hb.1 hb.2 l1 v2 u2.2
            obtain ⟨p3, d3, g3, F3, i3, j3, q3, r3, H3⟩ := key (Thi.isN b c 0) b c hb.1 hb.2 hc.1 hc.2 l2 v3 u3.2
            have K : ∀ N, 0 ≤ N → Thi.prN N a c = Thi.rN N.toNat 360 ∧ Thi.prD N a c = Thi.rD N.toNat 360 ∧ Thi.prE a c = 0 := by
              intro N hN
              obtain ⟨e1, e2, e3⟩ := Thi.pr_ok N ha.1 ha.2 hc.1 hc.2 l3
              have hm : max 0 N = N := by omega
              rw [hm] at e2 e3; exact ⟨e2, e3, e1⟩
            have S0 := fr_sum i0 j0 i1 j1 q0 q1
            have S2 := fr_sum i2 j2 i3 j3 q2 q3
            rw [show (Thi.eN a b).toNat + (Thi.eN b c).toNat = (Thi.eN a c).toNat by omega] at S0
            rw [show (Thi.isN a b 0).toNat + (Thi.isN b c 0).toNat = (Thi.isN a c 0).toNat by omega] at S2
            exact tadds_ok a b c _ _ _ _ _ p0 d0 _ p1 d1 _ p2 d2 _ p3 d3 da db dc hab hbc (Lib.hid H0) (Lib.hid F0) r0 (Lib.hid H1) (Lib.hid F1) r1 (Lib.hid H2) (Lib.hid F2) r2 (Lib.hid H3) (Lib.hid F3) r3 (Lib.hid (K _ (by omega))) (Lib.hid (K _ (by omega))) (Lib.hid S0) (Lib.hid S2) w hL
      · exact tadds_nc a b c (dayB_in ha.1 ha.2) (dayB_in hb.1 hb.2) (dayB_no hc) w hL
    · exact tadds_nb a b c (dayB_in ha.1 ha.2) (dayB_no hb) w hL
  · exact tadds_na a b c (dayB_no ha) w hL
end Go.Proofs.YtjcjchapfiokeaaDoor
