/- The walk of ThirtyEnds: the law returns true for every input. Conditions: the table of months' lengths lies as the program's text lays it. -/
import Derived.Test.YtjcjchapfiokeaaDoorThiS
import Derived.Test.YtjcjchapfiokeaaDoorThiG
import Derived.Test.YtjcjchapfiokeaaDoorMonL
namespace Go.Proofs.YtjcjchapfiokeaaDoor
open Go.RowKit
set_option linter.unusedVariables false
theorem rend_at (n z x : Int) (h : Hid (Mon.endV n = z ∧ ofE n = x)) (w : World) : Calls Tryd.prog 41 #[.int .i64 n] w fun e w' => e = .returned (.tuple #[.int .i64 z, .int .i64 x]) ∧ Below w.heap.size w w' := by
  have g := rend_c n w
  rw [h.out.1, h.out.2] at g; exact g
theorem rmove_at (n k z x : Int) (h : Hid (Mon.V n k true = z ∧ Mon.E n k = x)) (w : World) : Calls Tryd.prog 42 #[.int .i64 n, .int .i64 k, .bool true] w fun e w' => e = .returned (.tuple #[.int .i64 z, .int .i64 x]) ∧ Below w.heap.size w w' := by
  have g := rmove_c n k true w
  rw [h.out.1, h.out.2] at g; exact g
theorem dnew12' (x : Int) (nn : Nat) (hx : x = (nn : Int)) (hnn : nn ≤ 4000000) (w : World) : Calls Tryd.prog 37 #[.int .i64 x, .int .i64 12] w fun e w' => e = .returned (.tuple #[.agg #[.int .i64 (Thi.rN nn 12), .int .i64 (Thi.rD nn 12)], .int .i64 0]) ∧ Below w.heap.size w w' := by
  subst hx; exact dnew_c nn 12 (by omega) (by omega) (by omega) w
set_option maxRecDepth 100000 in
set_option maxHeartbeats 16000000 in
theorem tends_bad (n k : Int) (m z x e : Int) (k1 : 0 ≤ k) (k2 : k ≤ 65535) (hm : k.tmod 401 = m) (m1 : 0 ≤ m) (m2 : m ≤ 400) (HZ : Hid (Mon.endV n = z ∧ ofE n = 3)) (HX : Hid (Mon.V z m true = x ∧ Mon.E z m = e)) (w : World) (hL : Laid w) : Calls Tryd.prog 14 #[.int .i64 n, .int .u16 k] w fun e w' => e = .returned (.bool true) ∧ Below w.heap.size w w' := by
  have hB : Below w.heap.size w w := Below.refl _ _
  have wk : IntKind.i64.wrap k = k := IntWalk.i64_in _ (by omega)
  have wm : IntKind.i64.wrap m = m := IntWalk.i64_in _ (by omega)
  go_enter Tryd.func14, Tryd.ntmps14
  go_wp2_with fail
  refine (shown07_c _ (hL.below (by repeat (first | assumption | exact Below.refl _ _ | (with_reducible refine Below.drew ?_) | (with_reducible refine below_drewN' ?_ _) | (with_reducible refine below_al ?_) | ((with_reducible refine below_set ?_ ?_); rotate_left; focus (first | (simp; done) | (simp; omega))))))).mono ?_; rintro e w1 ⟨rfl, hb1⟩
  have hz1 := hb1.size; (try simp at hz1); obtain ⟨hc1, hf1⟩ := bcell hb1; have hB1 := below_step (w := w) hb1 (by repeat (first | assumption | exact Below.refl _ _ | (with_reducible refine Below.drew ?_) | (with_reducible refine below_drewN' ?_ _) | (with_reducible refine below_al ?_) | ((with_reducible refine below_set ?_ ?_); rotate_left; focus (first | (simp; done) | (simp; omega)))))
  have le_w_w1 : w.heap.size ≤ w1.heap.size := by omega
  try have lt_w_w1 : w.heap.size < w1.heap.size := by omega
  go_wp2_with fail
  refine (rend_at _ _ _ HZ _).mono ?_; rintro e w2 ⟨rfl, hb2⟩
  have hz2 := hb2.size; (try simp at hz2); obtain ⟨hc2, hf2⟩ := bcell hb2; have hB2 := below_step (w := w) hb2 (by repeat (first | assumption | exact Below.refl _ _ | (with_reducible refine Below.drew ?_) | (with_reducible refine below_drewN' ?_ _) | (with_reducible refine below_al ?_) | ((with_reducible refine below_set ?_ ?_); rotate_left; focus (first | (simp; done) | (simp; omega)))))
  have le_w_w2 : w.heap.size ≤ w2.heap.size := by omega
  try have lt_w_w2 : w.heap.size < w2.heap.size := by omega
  have le_w1_w2 : w1.heap.size ≤ w2.heap.size := by omega
  try have lt_w1_w2 : w1.heap.size < w2.heap.size := by omega
  go_wp2_with fail
  refine (rmove_at _ _ _ _ HX _).mono ?_; rintro e w3 ⟨rfl, hb3⟩
  have hz3 := hb3.size; (try simp at hz3); obtain ⟨hc3, hf3⟩ := bcell hb3; have hB3 := below_step (w := w) hb3 (by repeat (first | assumption | exact Below.refl _ _ | (with_reducible refine Below.drew ?_) | (with_reducible refine below_drewN' ?_ _) | (with_reducible refine below_al ?_) | ((with_reducible refine below_set ?_ ?_); rotate_left; focus (first | (simp; done) | (simp; omega)))))
  have le_w_w3 : w.heap.size ≤ w3.heap.size := by omega
  try have lt_w_w3 : w.heap.size < w3.heap.size := by omega
  have le_w1_w3 : w1.heap.size ≤ w3.heap.size := by omega
  try have lt_w1_w3 : w1.heap.size < w3.heap.size := by omega
  have le_w2_w3 : w2.heap.size ≤ w3.heap.size := by omega
  try have lt_w2_w3 : w2.heap.size < w3.heap.size := by omega
  go_wp2_with fail
  go_ret
  exact ⟨rfl, by repeat (first | assumption | exact Below.refl _ _ | (with_reducible refine Below.drew ?_) | (with_reducible refine below_drewN' ?_ _) | (with_reducible refine below_al ?_) | ((with_reducible refine below_set ?_ ?_); rotate_left; focus (first | (simp; done) | (simp; omega))))⟩
set_option maxRecDepth 100000 in
set_option maxHeartbeats 16000000 in
theorem tends_odd (n k : Int) (m z x : Int) (k1 : 0 ≤ k) (k2 : k ≤ 65535) (hm : k.tmod 401 = m) (m1 : 0 ≤ m) (m2 : m ≤ 400) (HZ : Hid (Mon.endV n = z ∧ ofE n = 0)) (HX : Hid (Mon.V z m true = x ∧ Mon.E z m = 3)) (w : World) (hL : Laid w) : Calls Tryd.prog 14 #[.int .i64 n, .int .u16 k] w fun e w' => e = .returned (.bool true) ∧ Below w.heap.size w w' := by
  have hB : Below w.heap.size w w := Below.refl _ _
  have wk : IntKind.i64.wrap k = k := IntWalk.i64_in _ (by omega)
  have wm : IntKind.i64.wrap m = m := IntWalk.i64_in _ (by omega)
  go_enter Tryd.func14, Tryd.ntmps14
  go_wp2_with fail
  refine (shown07_c _ (hL.below (by repeat (first | assumption | exact Below.refl _ _ | (with_reducible refine Below.drew ?_) | (with_reducible refine below_drewN' ?_ _) | (with_reducible refine below_al ?_) | ((with_reducible refine below_set ?_ ?_); rotate_left; focus (first | (simp; done) | (simp; omega))))))).mono ?_; rintro e w1 ⟨rfl, hb1⟩
  have hz1 := hb1.size; (try simp at hz1); obtain ⟨hc1, hf1⟩ := bcell hb1; have hB1 := below_step (w := w) hb1 (by repeat (first | assumption | exact Below.refl _ _ | (with_reducible refine Below.drew ?_) | (with_reducible refine below_drewN' ?_ _) | (with_reducible refine below_al ?_) | ((with_reducible refine below_set ?_ ?_); rotate_left; focus (first | (simp; done) | (simp; omega)))))
  have le_w_w1 : w.heap.size ≤ w1.heap.size := by omega
  try have lt_w_w1 : w.heap.size < w1.heap.size := by omega
  go_wp2_with fail
  refine (rend_at _ _ _ HZ _).mono ?_; rintro e w2 ⟨rfl, hb2⟩
  have hz2 := hb2.size; (try simp at hz2); obtain ⟨hc2, hf2⟩ := bcell hb2; have hB2 := below_step (w := w) hb2 (by repeat (first | assumption | exact Below.refl _ _ | (with_reducible refine Below.drew ?_) | (with_reducible refine below_drewN' ?_ _) | (with_reducible refine below_al ?_) | ((with_reducible refine below_set ?_ ?_); rotate_left; focus (first | (simp; done) | (simp; omega)))))
  have le_w_w2 : w.heap.size ≤ w2.heap.size := by omega
  try have lt_w_w2 : w.heap.size < w2.heap.size := by omega
  have le_w1_w2 : w1.heap.size ≤ w2.heap.size := by omega
  try have lt_w1_w2 : w1.heap.size < w2.heap.size := by omega
  go_wp2_with fail
  refine (rmove_at _ _ _ _ HX _).mono ?_; rintro e w3 ⟨rfl, hb3⟩
  have hz3 := hb3.size; (try simp at hz3); obtain ⟨hc3, hf3⟩ := bcell hb3; have hB3 := below_step (w := w) hb3 (by repeat (first | assumption | exact Below.refl _ _ | (with_reducible refine Below.drew ?_) | (with_reducible refine below_drewN' ?_ _) | (with_reducible refine below_al ?_) | ((with_reducible refine below_set ?_ ?_); rotate_left; focus (first | (simp; done) | (simp; omega)))))
  have le_w_w3 : w.heap.size ≤ w3.heap.size := by omega
  try have lt_w_w3 : w.heap.size < w3.heap.size := by omega
  have le_w1_w3 : w1.heap.size ≤ w3.heap.size := by omega
  try have lt_w1_w3 : w1.heap.size < w3.heap.size := by omega
  have le_w2_w3 : w2.heap.size ≤ w3.heap.size := by omega
  try have lt_w2_w3 : w2.heap.size < w3.heap.size := by omega
  go_wp2_with fail
  go_ret
  exact ⟨rfl, by repeat (first | assumption | exact Below.refl _ _ | (with_reducible refine Below.drew ?_) | (with_reducible refine below_drewN' ?_ _) | (with_reducible refine below_al ?_) | ((with_reducible refine below_set ?_ ?_); rotate_left; focus (first | (simp; done) | (simp; omega))))⟩
set_option maxRecDepth 100000 in
set_option maxHeartbeats 16000000 in
theorem tends_ok1 (n k : Int) (m z x P D P2 D2 ya ma da yb mb db : Int) (nn : Nat) (k1 : 0 ≤ k) (k2 : k ≤ 65535) (hm : k.tmod 401 = m) (m1 : 0 ≤ m) (m2 : m ≤ 400) (HZ : Hid (Mon.endV n = z ∧ ofE n = 0)) (HX : Hid (Mon.V z m true = x ∧ Mon.E z m = 0)) (z1 : 1 ≤ z) (z2 : z ≤ 3652059) (x1 : 1 ≤ x) (x2 : x ≤ 3652059) (HN : Hid (m = (nn : Int))) (hnn : nn ≤ 4000000) (HW : Hid (Thi.rN nn 12 = P ∧ Thi.rD nn 12 = D)) (H1 : Hid (Thi.prN (Thi.isN z x 0) z x = P ∧ Thi.prD (Thi.isN z x 0) z x = D ∧ Thi.prE z x = 0)) (HA : Hid (Cal.yOf z = ya ∧ Cal.mOf z = ma ∧ Cal.dOf z = da)) (HB' : Hid (Cal.yOf x = yb ∧ Cal.mOf x = mb ∧ Cal.dOf x = db)) (H2 : Hid (Thi.prN (Thi.usN z x true) z x = P2 ∧ Thi.prD (Thi.usN z x true) z x = D2 ∧ Thi.prE z x = 0)) (c1 : (ma == 2) = false) (c1' : (ma != 2) = true) (c2 : (mb == 2) = true) (w : World) (hL : Laid w) : Calls Tryd.prog 14 #[.int .i64 n, .int .u16 k] w fun e w' => e = .returned (.bool true) ∧ Below w.heap.size w w' := by
  have hB : Below w.heap.size w w := Below.refl _ _
  have wk : IntKind.i64.wrap k = k := IntWalk.i64_in _ (by omega)
  have wm : IntKind.i64.wrap m = m := IntWalk.i64_in _ (by omega)
  go_enter Tryd.func14, Tryd.ntmps14
  go_wp2_with fail
  refine (shown07_c _ (hL.below (by repeat (first | assumption | exact Below.refl _ _ | (with_reducible refine Below.drew ?_) | (with_reducible refine below_drewN' ?_ _) | (with_reducible refine below_al ?_) | ((with_reducible refine below_set ?_ ?_); rotate_left; focus (first | (simp; done) | (simp; omega))))))).mono ?_; rintro e w1 ⟨rfl, hb1⟩
  have hz1 := hb1.size; (try simp at hz1); obtain ⟨hc1, hf1⟩ := bcell hb1; have hB1 := below_step (w := w) hb1 (by repeat (first | assumption | exact Below.refl _ _ | (with_reducible refine Below.drew ?_) | (with_reducible refine below_drewN' ?_ _) | (with_reducible refine below_al ?_) | ((with_reducible refine below_set ?_ ?_); rotate_left; focus (first | (simp; done) | (simp; omega)))))
  have le_w_w1 : w.heap.size ≤ w1.heap.size := by omega
  try have lt_w_w1 : w.heap.size < w1.heap.size := by omega
  go_wp2_with fail
  refine (rend_at _ _ _ HZ _).mono ?_; rintro e w2 ⟨rfl, hb2⟩
  have hz2 := hb2.size; (try simp at hz2); obtain ⟨hc2, hf2⟩ := bcell hb2; have hB2 := below_step (w := w) hb2 (by repeat (first | assumption | exact Below.refl _ _ | (with_reducible refine Below.drew ?_) | (with_reducible refine below_drewN' ?_ _) | (with_reducible refine below_al ?_) | ((with_reducible refine below_set ?_ ?_); rotate_left; focus (first | (simp; done) | (simp; omega)))))
  have le_w_w2 : w.heap.size ≤ w2.heap.size := by omega
  try have lt_w_w2 : w.heap.size < w2.heap.size := by omega
  have le_w1_w2 : w1.heap.size ≤ w2.heap.size := by omega
  try have lt_w1_w2 : w1.heap.size < w2.heap.size := by omega
  go_wp2_with fail
  refine (rmove_at _ _ _ _ HX _).mono ?_; rintro e w3 ⟨rfl, hb3⟩
  have hz3 := hb3.size; (try simp at hz3); obtain ⟨hc3, hf3⟩ := bcell hb3; have hB3 := below_step (w := w) hb3 (by repeat (first | assumption | exact Below.refl _ _ | (with_reducible refine Below.drew ?_) | (with_reducible refine below_drewN' ?_ _) | (with_reducible refine below_al ?_) | ((with_reducible refine below_set ?_ ?_); rotate_left; focus (first | (simp; done) | (simp; omega)))))
  have le_w_w3 : w.heap.size ≤ w3.heap.size := by omega
  try have lt_w_w3 : w.heap.size < w3.heap.size := by omega
  have le_w1_w3 : w1.heap.size ≤ w3.heap.size := by omega
  try have lt_w1_w3 : w1.heap.size < w3.heap.size := by omega
  have le_w2_w3 : w2.heap.size ≤ w3.heap.size := by omega
  try have lt_w2_w3 : w2.heap.size < w3.heap.size := by omega
  go_wp2_with fail
  refine (dnew12' _ nn HN.out hnn _).mono ?_; rintro e w4 ⟨rfl, hb4⟩
  have hz4 := hb4.size; (try simp at hz4); obtain ⟨hc4, hf4⟩ := bcell hb4; have hB4 := below_step (w := w) hb4 (by repeat (first | assumption | exact Below.refl _ _ | (with_reducible refine Below.drew ?_) | (with_reducible refine below_drewN' ?_ _) | (with_reducible refine below_al ?_) | ((with_reducible refine below_set ?_ ?_); rotate_left; focus (first | (simp; done) | (simp; omega)))))
  have le_w_w4 : w.heap.size ≤ w4.heap.size := by omega
  try have lt_w_w4 : w.heap.size < w4.heap.size := by omega
  have le_w1_w4 : w1.heap.size ≤ w4.heap.size := by omega
  try have lt_w1_w4 : w1.heap.size < w4.heap.size := by omega
  have le_w2_w4 : w2.heap.size ≤ w4.heap.size := by omega
  try have lt_w2_w4 : w2.heap.size < w4.heap.size := by omega
  have le_w3_w4 : w3.heap.size ≤ w4.heap.size := by omega
  try have lt_w3_w4 : w3.heap.size < w4.heap.size := by omega
  rw [HW.out.1, HW.out.2]
  go_wp2_with fail
  refine (pr_at H1.out (tis_c _ _ _ _ (hL.below (by repeat (first | assumption | exact Below.refl _ _ | (with_reducible refine Below.drew ?_) | (with_reducible refine below_drewN' ?_ _) | (with_reducible refine below_al ?_) | ((with_reducible refine below_set ?_ ?_); rotate_left; focus (first | (simp; done) | (simp; omega)))))))).mono ?_; rintro e w5 ⟨rfl, hb5⟩
  have hz5 := hb5.size; (try simp at hz5); obtain ⟨hc5, hf5⟩ := bcell hb5; have hB5 := below_step (w := w) hb5 (by repeat (first | assumption | exact Below.refl _ _ | (with_reducible refine Below.drew ?_) | (with_reducible refine below_drewN' ?_ _) | (with_reducible refine below_al ?_) | ((with_reducible refine below_set ?_ ?_); rotate_left; focus (first | (simp; done) | (simp; omega)))))
  have le_w_w5 : w.heap.size ≤ w5.heap.size := by omega
  try have lt_w_w5 : w.heap.size < w5.heap.size := by omega
  have le_w1_w5 : w1.heap.size ≤ w5.heap.size := by omega
  try have lt_w1_w5 : w1.heap.size < w5.heap.size := by omega
  have le_w2_w5 : w2.heap.size ≤ w5.heap.size := by omega
  try have lt_w2_w5 : w2.heap.size < w5.heap.size := by omega
  have le_w3_w5 : w3.heap.size ≤ w5.heap.size := by omega
  try have lt_w3_w5 : w3.heap.size < w5.heap.size := by omega
  have le_w4_w5 : w4.heap.size ≤ w5.heap.size := by omega
  try have lt_w4_w5 : w4.heap.size < w5.heap.size := by omega
  go_wp2_with fail
  refine (pr_at H2.out (tus_c _ _ _ _ (hL.below (by repeat (first | assumption | exact Below.refl _ _ | (with_reducible refine Below.drew ?_) | (with_reducible refine below_drewN' ?_ _) | (with_reducible refine below_al ?_) | ((with_reducible refine below_set ?_ ?_); rotate_left; focus (first | (simp; done) | (simp; omega)))))))).mono ?_; rintro e w6 ⟨rfl, hb6⟩
  have hz6 := hb6.size; (try simp at hz6); obtain ⟨hc6, hf6⟩ := bcell hb6; have hB6 := below_step (w := w) hb6 (by repeat (first | assumption | exact Below.refl _ _ | (with_reducible refine Below.drew ?_) | (with_reducible refine below_drewN' ?_ _) | (with_reducible refine below_al ?_) | ((with_reducible refine below_set ?_ ?_); rotate_left; focus (first | (simp; done) | (simp; omega)))))
  have le_w_w6 : w.heap.size ≤ w6.heap.size := by omega
  try have lt_w_w6 : w.heap.size < w6.heap.size := by omega
  have le_w1_w6 : w1.heap.size ≤ w6.heap.size := by omega
  try have lt_w1_w6 : w1.heap.size < w6.heap.size := by omega
  have le_w2_w6 : w2.heap.size ≤ w6.heap.size := by omega
  try have lt_w2_w6 : w2.heap.size < w6.heap.size := by omega
  have le_w3_w6 : w3.heap.size ≤ w6.heap.size := by omega
  try have lt_w3_w6 : w3.heap.size < w6.heap.size := by omega
  have le_w4_w6 : w4.heap.size ≤ w6.heap.size := by omega
  try have lt_w4_w6 : w4.heap.size < w6.heap.size := by omega
  have le_w5_w6 : w5.heap.size ≤ w6.heap.size := by omega
  try have lt_w5_w6 : w5.heap.size < w6.heap.size := by omega
  go_wp2_with fail
  refine (rof_in _ _ _ _ z1 z2 HA _).mono ?_; rintro e w7 ⟨rfl, hb7⟩
  have hz7 := hb7.size; (try simp at hz7); obtain ⟨hc7, hf7⟩ := bcell hb7; have hB7 := below_step (w := w) hb7 (by repeat (first | assumption | exact Below.refl _ _ | (with_reducible refine Below.drew ?_) | (with_reducible refine below_drewN' ?_ _) | (with_reducible refine below_al ?_) | ((with_reducible refine below_set ?_ ?_); rotate_left; focus (first | (simp; done) | (simp; omega)))))
  have le_w_w7 : w.heap.size ≤ w7.heap.size := by omega
  try have lt_w_w7 : w.heap.size < w7.heap.size := by omega
  have le_w1_w7 : w1.heap.size ≤ w7.heap.size := by omega
  try have lt_w1_w7 : w1.heap.size < w7.heap.size := by omega
  have le_w2_w7 : w2.heap.size ≤ w7.heap.size := by omega
  try have lt_w2_w7 : w2.heap.size < w7.heap.size := by omega
  have le_w3_w7 : w3.heap.size ≤ w7.heap.size := by omega
  try have lt_w3_w7 : w3.heap.size < w7.heap.size := by omega
  have le_w4_w7 : w4.heap.size ≤ w7.heap.size := by omega
  try have lt_w4_w7 : w4.heap.size < w7.heap.size := by omega
  have le_w5_w7 : w5.heap.size ≤ w7.heap.size := by omega
  try have lt_w5_w7 : w5.heap.size < w7.heap.size := by omega
  have le_w6_w7 : w6.heap.size ≤ w7.heap.size := by omega
  try have lt_w6_w7 : w6.heap.size < w7.heap.size := by omega
  go_wp2_with fail
  refine (rof_in _ _ _ _ x1 x2 HB' _).mono ?_; rintro e w8 ⟨rfl, hb8⟩
  have hz8 := hb8.size; (try simp at hz8); obtain ⟨hc8, hf8⟩ := bcell hb8; have hB8 := below_step (w := w) hb8 (by repeat (first | assumption | exact Below.refl _ _ | (with_reducible refine Below.drew ?_) | (with_reducible refine below_drewN' ?_ _) | (with_reducible refine below_al ?_) | ((with_reducible refine below_set ?_ ?_); rotate_left; focus (first | (simp; done) | (simp; omega)))))
  have le_w_w8 : w.heap.size ≤ w8.heap.size := by omega
  try have lt_w_w8 : w.heap.size < w8.heap.size := by omega
  have le_w1_w8 : w1.heap.size ≤ w8.heap.size := by omega
  try have lt_w1_w8 : w1.heap.size < w8.heap.size := by omega
  have le_w2_w8 : w2.heap.size ≤ w8.heap.size := by omega
  try have lt_w2_w8 : w2.heap.size < w8.heap.size := by omega
  have le_w3_w8 : w3.heap.size ≤ w8.heap.size := by omega
  try have lt_w3_w8 : w3.heap.size < w8.heap.size := by omega
  have le_w4_w8 : w4.heap.size ≤ w8.heap.size := by omega
  try have lt_w4_w8 : w4.heap.size < w8.heap.size := by omega
  have le_w5_w8 : w5.heap.size ≤ w8.heap.size := by omega
  try have lt_w5_w8 : w5.heap.size < w8.heap.size := by omega
  have le_w6_w8 : w6.heap.size ≤ w8.heap.size := by omega
  try have lt_w6_w8 : w6.heap.size < w8.heap.size := by omega
  have le_w7_w8 : w7.heap.size ≤ w8.heap.size := by omega
  try have lt_w7_w8 : w7.heap.size < w8.heap.size := by omega
  go_wp2_with fail
  go_ret
  exact ⟨rfl, by repeat (first | assumption | exact Below.refl _ _ | (with_reducible refine Below.drew ?_) | (with_reducible refine below_drewN' ?_ _) | (with_reducible refine below_al ?_) | ((with_reducible refine below_set ?_ ?_); rotate_left; focus (first | (simp; done) | (simp; omega))))⟩
set_option maxRecDepth 100000 in
set_option maxHeartbeats 16000000 in
theorem tends_ok2 (n k : Int) (m z x P D P2 D2 ya ma da yb mb db : Int) (nn : Nat) (k1 : 0 ≤ k) (k2 : k ≤ 65535) (hm : k.tmod 401 = m) (m1 : 0 ≤ m) (m2 : m ≤ 400) (HZ : Hid (Mon.endV n = z ∧ ofE n = 0)) (HX : Hid (Mon.V z m true = x ∧ Mon.E z m = 0)) (z1 : 1 ≤ z) (z2 : z ≤ 3652059) (x1 : 1 ≤ x) (x2 : x ≤ 3652059) (HN : Hid (m = (nn : Int))) (hnn : nn ≤ 4000000) (HW : Hid (Thi.rN nn 12 = P ∧ Thi.rD nn 12 = D)) (H1 : Hid (Thi.prN (Thi.isN z x 0) z x = P ∧ Thi.prD (Thi.isN z x 0) z x = D ∧ Thi.prE z x = 0)) (HA : Hid (Cal.yOf z = ya ∧ Cal.mOf z = ma ∧ Cal.dOf z = da)) (HB' : Hid (Cal.yOf x = yb ∧ Cal.mOf x = mb ∧ Cal.dOf x = db)) (H2 : Hid (Thi.prN (Thi.usN z x true) z x = P2 ∧ Thi.prD (Thi.usN z x true) z x = D2 ∧ Thi.prE z x = 0)) (c1 : (ma == 2) = true) (c1' : (ma != 2) = false) (hP : P2 = P) (hD : D2 = D) (w : World) (hL : Laid w) : Calls Tryd.prog 14 #[.int .i64 n, .int .u16 k] w fun e w' => e = .returned (.bool true) ∧ Below w.heap.size w w' := by
  have hB : Below w.heap.size w w := Below.refl _ _
  have wk : IntKind.i64.wrap k = k := IntWalk.i64_in _ (by omega)
  have wm : IntKind.i64.wrap m = m := IntWalk.i64_in _ (by omega)
  subst hP hD
  go_enter Tryd.func14, Tryd.ntmps14
  go_wp2_with fail
  refine (shown07_c _ (hL.below (by repeat (first | assumption | exact Below.refl _ _ | (with_reducible refine Below.drew ?_) | (with_reducible refine below_drewN' ?_ _) | (with_reducible refine below_al ?_) | ((with_reducible refine below_set ?_ ?_); rotate_left; focus (first | (simp; done) | (simp; omega))))))).mono ?_; rintro e w1 ⟨rfl, hb1⟩
  have hz1 := hb1.size; (try simp at hz1); obtain ⟨hc1, hf1⟩ := bcell hb1; have hB1 := below_step (w := w) hb1 (by repeat (first | assumption | exact Below.refl _ _ | (with_reducible refine Below.drew ?_) | (with_reducible refine below_drewN' ?_ _) | (with_reducible refine below_al ?_) | ((with_reducible refine below_set ?_ ?_); rotate_left; focus (first | (simp; done) | (simp; omega)))))
  have le_w_w1 : w.heap.size ≤ w1.heap.size := by omega
  try have lt_w_w1 : w.heap.size < w1.heap.size := by omega
  go_wp2_with fail
  refine (rend_at _ _ _ HZ _).mono ?_; rintro e w2 ⟨rfl, hb2⟩
  have hz2 := hb2.size; (try simp at hz2); obtain ⟨hc2, hf2⟩ := bcell hb2; have hB2 := below_step (w := w) hb2 (by repeat (first | assumption | exact Below.refl _ _ | (with_reducible refine Below.drew ?_) | (with_reducible refine below_drewN' ?_ _) | (with_reducible refine below_al ?_) | ((with_reducible refine below_set ?_ ?_); rotate_left; focus (first | (simp; done) | (simp; omega)))))
  have le_w_w2 : w.heap.size ≤ w2.heap.size := by omega
  try have lt_w_w2 : w.heap.size < w2.heap.size := by omega
  have le_w1_w2 : w1.heap.size ≤ w2.heap.size := by omega
  try have lt_w1_w2 : w1.heap.size < w2.heap.size := by omega
  go_wp2_with fail
  refine (rmove_at _ _ _ _ HX _).mono ?_; rintro e w3 ⟨rfl, hb3⟩
  have hz3 := hb3.size; (try simp at hz3); obtain ⟨hc3, hf3⟩ := bcell hb3; have hB3 := below_step (w := w) hb3 (by repeat (first | assumption | exact Below.refl _ _ | (with_reducible refine Below.drew ?_) | (with_reducible refine below_drewN' ?_ _) | (with_reducible refine below_al ?_) | ((with_reducible refine below_set ?_ ?_); rotate_left; focus (first | (simp; done) | (simp; omega)))))
  have le_w_w3 : w.heap.size ≤ w3.heap.size := by omega
  try have lt_w_w3 : w.heap.size < w3.heap.size := by omega
  have le_w1_w3 : w1.heap.size ≤ w3.heap.size := by omega
  try have lt_w1_w3 : w1.heap.size < w3.heap.size := by omega
  have le_w2_w3 : w2.heap.size ≤ w3.heap.size := by omega
  try have lt_w2_w3 : w2.heap.size < w3.heap.size := by omega
  go_wp2_with fail
  refine (dnew12' _ nn HN.out hnn _).mono ?_; rintro e w4 ⟨rfl, hb4⟩
  have hz4 := hb4.size; (try simp at hz4); obtain ⟨hc4, hf4⟩ := bcell hb4; have hB4 := below_step (w := w) hb4 (by repeat (first | assumption | exact Below.refl _ _ | (with_reducible refine Below.drew ?_) | (with_reducible refine below_drewN' ?_ _) | (with_reducible refine below_al ?_) | ((with_reducible refine below_set ?_ ?_); rotate_left; focus (first | (simp; done) | (simp; omega)))))
  have le_w_w4 : w.heap.size ≤ w4.heap.size := by omega
  try have lt_w_w4 : w.heap.size < w4.heap.size := by omega
  have le_w1_w4 : w1.heap.size ≤ w4.heap.size := by omega
  try have lt_w1_w4 : w1.heap.size < w4.heap.size := by omega
  have le_w2_w4 : w2.heap.size ≤ w4.heap.size := by omega
  try have lt_w2_w4 : w2.heap.size < w4.heap.size := by omega
  have le_w3_w4 : w3.heap.size ≤ w4.heap.size := by omega
  try have lt_w3_w4 : w3.heap.size < w4.heap.size := by omega
  rw [HW.out.1, HW.out.2]
  go_wp2_with fail
  refine (pr_at H1.out (tis_c _ _ _ _ (hL.below (by repeat (first | assumption | exact Below.refl _ _ | (with_reducible refine Below.drew ?_) | (with_reducible refine below_drewN' ?_ _) | (with_reducible refine below_al ?_) | ((with_reducible refine below_set ?_ ?_); rotate_left; focus (first | (simp; done) | (simp; omega)))))))).mono ?_; rintro e w5 ⟨rfl, hb5⟩
  have hz5 := hb5.size; (try simp at hz5); obtain ⟨hc5, hf5⟩ := bcell hb5; have hB5 := below_step (w := w) hb5 (by repeat (first | assumption | exact Below.refl _ _ | (with_reducible refine Below.drew ?_) | (with_reducible refine below_drewN' ?_ _) | (with_reducible refine below_al ?_) | ((with_reducible refine below_set ?_ ?_); rotate_left; focus (first | (simp; done) | (simp; omega)))))
  have le_w_w5 : w.heap.size ≤ w5.heap.size := by omega
  try have lt_w_w5 : w.heap.size < w5.heap.size := by omega
  have le_w1_w5 : w1.heap.size ≤ w5.heap.size := by omega
  try have lt_w1_w5 : w1.heap.size < w5.heap.size := by omega
  have le_w2_w5 : w2.heap.size ≤ w5.heap.size := by omega
  try have lt_w2_w5 : w2.heap.size < w5.heap.size := by omega
  have le_w3_w5 : w3.heap.size ≤ w5.heap.size := by omega
  try have lt_w3_w5 : w3.heap.size < w5.heap.size := by omega
  have le_w4_w5 : w4.heap.size ≤ w5.heap.size := by omega
  try have lt_w4_w5 : w4.heap.size < w5.heap.size := by omega
  go_wp2_with fail
  refine (pr_at H2.out (tus_c _ _ _ _ (hL.below (by repeat (first | assumption | exact Below.refl _ _ | (with_reducible refine Below.drew ?_) | (with_reducible refine below_drewN' ?_ _) | (with_reducible refine below_al ?_) | ((with_reducible refine below_set ?_ ?_); rotate_left; focus (first | (simp; done) | (simp; omega)))))))).mono ?_; rintro e w6 ⟨rfl, hb6⟩
  have hz6 := hb6.size; (try simp at hz6); obtain ⟨hc6, hf6⟩ := bcell hb6; have hB6 := below_step (w := w) hb6 (by repeat (first | assumption | exact Below.refl _ _ | (with_reducible refine Below.drew ?_) | (with_reducible refine below_drewN' ?_ _) | (with_reducible refine below_al ?_) | ((with_reducible refine below_set ?_ ?_); rotate_left; focus (first | (simp; done) | (simp; omega)))))
  have le_w_w6 : w.heap.size ≤ w6.heap.size := by omega
  try have lt_w_w6 : w.heap.size < w6.heap.size := by omega
  have le_w1_w6 : w1.heap.size ≤ w6.heap.size := by omega
  try have lt_w1_w6 : w1.heap.size < w6.heap.size := by omega
  have le_w2_w6 : w2.heap.size ≤ w6.heap.size := by omega
  try have lt_w2_w6 : w2.heap.size < w6.heap.size := by omega
  have le_w3_w6 : w3.heap.size ≤ w6.heap.size := by omega
  try have lt_w3_w6 : w3.heap.size < w6.heap.size := by omega
  have le_w4_w6 : w4.heap.size ≤ w6.heap.size := by omega
  try have lt_w4_w6 : w4.heap.size < w6.heap.size := by omega
  have le_w5_w6 : w5.heap.size ≤ w6.heap.size := by omega
  try have lt_w5_w6 : w5.heap.size < w6.heap.size := by omega
  go_wp2_with fail
  refine (rof_in _ _ _ _ z1 z2 HA _).mono ?_; rintro e w7 ⟨rfl, hb7⟩
  have hz7 := hb7.size; (try simp at hz7); obtain ⟨hc7, hf7⟩ := bcell hb7; have hB7 := below_step (w := w) hb7 (by repeat (first | assumption | exact Below.refl _ _ | (with_reducible refine Below.drew ?_) | (with_reducible refine below_drewN' ?_ _) | (with_reducible refine below_al ?_) | ((with_reducible refine below_set ?_ ?_); rotate_left; focus (first | (simp; done) | (simp; omega)))))
  have le_w_w7 : w.heap.size ≤ w7.heap.size := by omega
  try have lt_w_w7 : w.heap.size < w7.heap.size := by omega
  have le_w1_w7 : w1.heap.size ≤ w7.heap.size := by omega
  try have lt_w1_w7 : w1.heap.size < w7.heap.size := by omega
  have le_w2_w7 : w2.heap.size ≤ w7.heap.size := by omega
  try have lt_w2_w7 : w2.heap.size < w7.heap.size := by omega
  have le_w3_w7 : w3.heap.size ≤ w7.heap.size := by omega
  try have lt_w3_w7 : w3.heap.size < w7.heap.size := by omega
  have le_w4_w7 : w4.heap.size ≤ w7.heap.size := by omega
  try have lt_w4_w7 : w4.heap.size < w7.heap.size := by omega
  have le_w5_w7 : w5.heap.size ≤ w7.heap.size := by omega
  try have lt_w5_w7 : w5.heap.size < w7.heap.size := by omega
  have le_w6_w7 : w6.heap.size ≤ w7.heap.size := by omega
  try have lt_w6_w7 : w6.heap.size < w7.heap.size := by omega
  go_wp2_with fail
  refine (rof_in _ _ _ _ x1 x2 HB' _).mono ?_; rintro e w8 ⟨rfl, hb8⟩
  have hz8 := hb8.size; (try simp at hz8); obtain ⟨hc8, hf8⟩ := bcell hb8; have hB8 := below_step (w := w) hb8 (by repeat (first | assumption | exact Below.refl _ _ | (with_reducible refine Below.drew ?_) | (with_reducible refine below_drewN' ?_ _) | (with_reducible refine below_al ?_) | ((with_reducible refine below_set ?_ ?_); rotate_left; focus (first | (simp; done) | (simp; omega)))))
  have le_w_w8 : w.heap.size ≤ w8.heap.size := by omega
  try have lt_w_w8 : w.heap.size < w8.heap.size := by omega
  have le_w1_w8 : w1.heap.size ≤ w8.heap.size := by omega
  try have lt_w1_w8 : w1.heap.size < w8.heap.size := by omega
  have le_w2_w8 : w2.heap.size ≤ w8.heap.size := by omega
  try have lt_w2_w8 : w2.heap.size < w8.heap.size := by omega
  have le_w3_w8 : w3.heap.size ≤ w8.heap.size := by omega
  try have lt_w3_w8 : w3.heap.size < w8.heap.size := by omega
  have le_w4_w8 : w4.heap.size ≤ w8.heap.size := by omega
  try have lt_w4_w8 : w4.heap.size < w8.heap.size := by omega
  have le_w5_w8 : w5.heap.size ≤ w8.heap.size := by omega
  try have lt_w5_w8 : w5.heap.size < w8.heap.size := by omega
  have le_w6_w8 : w6.heap.size ≤ w8.heap.size := by omega
  try have lt_w6_w8 : w6.heap.size < w8.heap.size := by omega
  have le_w7_w8 : w7.heap.size ≤ w8.heap.size := by omega
  try have lt_w7_w8 : w7.heap.size < w8.heap.size := by omega
  go_wp2_with fail
  go_ret
  exact ⟨rfl, by repeat (first | assumption | exact Below.refl _ _ | (with_reducible refine Below.drew ?_) | (with_reducible refine below_drewN' ?_ _) | (with_reducible refine below_al ?_) | ((with_reducible refine below_set ?_ ?_); rotate_left; focus (first | (simp; done) | (simp; omega))))⟩
set_option maxRecDepth 100000 in
set_option maxHeartbeats 16000000 in
theorem tends_ok3 (n k : Int) (m z x P D P2 D2 ya ma da yb mb db : Int) (nn : Nat) (k1 : 0 ≤ k) (k2 : k ≤ 65535) (hm : k.tmod 401 = m) (m1 : 0 ≤ m) (m2 : m ≤ 400) (HZ : Hid (Mon.endV n = z ∧ ofE n = 0)) (HX : Hid (Mon.V z m true = x ∧ Mon.E z m = 0)) (z1 : 1 ≤ z) (z2 : z ≤ 3652059) (x1 : 1 ≤ x) (x2 : x ≤ 3652059) (HN : Hid (m = (nn : Int))) (hnn : nn ≤ 4000000) (HW : Hid (Thi.rN nn 12 = P ∧ Thi.rD nn 12 = D)) (H1 : Hid (Thi.prN (Thi.isN z x 0) z x = P ∧ Thi.prD (Thi.isN z x 0) z x = D ∧ Thi.prE z x = 0)) (HA : Hid (Cal.yOf z = ya ∧ Cal.mOf z = ma ∧ Cal.dOf z = da)) (HB' : Hid (Cal.yOf x = yb ∧ Cal.mOf x = mb ∧ Cal.dOf x = db)) (H2 : Hid (Thi.prN (Thi.usN z x true) z x = P2 ∧ Thi.prD (Thi.usN z x true) z x = D2 ∧ Thi.prE z x = 0)) (c1 : (ma == 2) = false) (c1' : (ma != 2) = true) (c2 : (mb == 2) = false) (hP : P2 = P) (hD : D2 = D) (w : World) (hL : Laid w) : Calls Tryd.prog 14 #[.int .i64 n, .int .u16 k] w fun e w' => e = .returned (.bool true) ∧ Below w.heap.size w w' := by
  have hB : Below w.heap.size w w := Below.refl _ _
  have wk : IntKind.i64.wrap k = k := IntWalk.i64_in _ (by omega)
  have wm : IntKind.i64.wrap m = m := IntWalk.i64_in _ (by omega)
  subst hP hD
  go_enter Tryd.func14, Tryd.ntmps14
  go_wp2_with fail
  refine (shown07_c _ (hL.below (by repeat (first | assumption | exact Below.refl _ _ | (with_reducible refine Below.drew ?_) | (with_reducible refine below_drewN' ?_ _) | (with_reducible refine below_al ?_) | ((with_reducible refine below_set ?_ ?_); rotate_left; focus (first | (simp; done) | (simp; omega))))))).mono ?_; rintro e w1 ⟨rfl, hb1⟩
  have hz1 := hb1.size; (try simp at hz1); obtain ⟨hc1, hf1⟩ := bcell hb1; have hB1 := below_step (w := w) hb1 (by repeat (first | assumption | exact Below.refl _ _ | (with_reducible refine Below.drew ?_) | (with_reducible refine below_drewN' ?_ _) | (with_reducible refine below_al ?_) | ((with_reducible refine below_set ?_ ?_); rotate_left; focus (first | (simp; done) | (simp; omega)))))
  have le_w_w1 : w.heap.size ≤ w1.heap.size := by omega
  try have lt_w_w1 : w.heap.size < w1.heap.size := by omega
  go_wp2_with fail
  refine (rend_at _ _ _ HZ _).mono ?_; rintro e w2 ⟨rfl, hb2⟩
  have hz2 := hb2.size; (try simp at hz2); obtain ⟨hc2, hf2⟩ := bcell hb2; have hB2 := below_step (w := w) hb2 (by repeat (first | assumption | exact Below.refl _ _ | (with_reducible refine Below.drew ?_) | (with_reducible refine below_drewN' ?_ _) | (with_reducible refine below_al ?_) | ((with_reducible refine below_set ?_ ?_); rotate_left; focus (first | (simp; done) | (simp; omega)))))
  have le_w_w2 : w.heap.size ≤ w2.heap.size := by omega
  try have lt_w_w2 : w.heap.size < w2.heap.size := by omega
  have le_w1_w2 : w1.heap.size ≤ w2.heap.size := by omega
  try have lt_w1_w2 : w1.heap.size < w2.heap.size := by omega
  go_wp2_with fail
  refine (rmove_at _ _ _ _ HX _).mono ?_; rintro e w3 ⟨rfl, hb3⟩
  have hz3 := hb3.size; (try simp at hz3); obtain ⟨hc3, hf3⟩ := bcell hb3; have hB3 := below_step (w := w) hb3 (by repeat (first | assumption | exact Below.refl _ _ | (with_reducible refine Below.drew ?_) | (with_reducible refine below_drewN' ?_ _) | (with_reducible refine below_al ?_) | ((with_reducible refine below_set ?_ ?_); rotate_left; focus (first | (simp; done) | (simp; omega)))))
  have le_w_w3 : w.heap.size ≤ w3.heap.size := by omega
  try have lt_w_w3 : w.heap.size < w3.heap.size := by omega
  have le_w1_w3 : w1.heap.size ≤ w3.heap.size := by omega
  try have lt_w1_w3 : w1.heap.size < w3.heap.size := by omega
  have le_w2_w3 : w2.heap.size ≤ w3.heap.size := by omega
  try have lt_w2_w3 : w2.heap.size < w3.heap.size := by omega
  go_wp2_with fail
  refine (dnew12' _ nn HN.out hnn _).mono ?_; rintro e w4 ⟨rfl, hb4⟩
  have hz4 := hb4.size; (try simp at hz4); obtain ⟨hc4, hf4⟩ := bcell hb4; have hB4 := below_step (w := w) hb4 (by repeat (first | assumption | exact Below.refl _ _ | (with_reducible refine Below.drew ?_) | (with_reducible refine below_drewN' ?_ _) | (with_reducible refine below_al ?_) | ((with_reducible refine below_set ?_ ?_); rotate_left; focus (first | (simp; done) | (simp; omega)))))
  have le_w_w4 : w.heap.size ≤ w4.heap.size := by omega
  try have lt_w_w4 : w.heap.size < w4.heap.size := by omega
  have le_w1_w4 : w1.heap.size ≤ w4.heap.size := by omega
  try have lt_w1_w4 : w1.heap.size < w4.heap.size := by omega
  have le_w2_w4 : w2.heap.size ≤ w4.heap.size := by omega
  try have lt_w2_w4 : w2.heap.size < w4.heap.size := by omega
  have le_w3_w4 : w3.heap.size ≤ w4.heap.size := by omega
  try have lt_w3_w4 : w3.heap.size < w4.heap.size := by omega
  rw [HW.out.1, HW.out.2]
  go_wp2_with fail
  refine (pr_at H1.out (tis_c _ _ _ _ (hL.below (by repeat (first | assumption | exact Below.refl _ _ | (with_reducible refine Below.drew ?_) | (with_reducible refine below_drewN' ?_ _) | (with_reducible refine below_al ?_) | ((with_reducible refine below_set ?_ ?_); rotate_left; focus (first | (simp; done) | (simp; omega)))))))).mono ?_; rintro e w5 ⟨rfl, hb5⟩
  have hz5 := hb5.size; (try simp at hz5); obtain ⟨hc5, hf5⟩ := bcell hb5; have hB5 := below_step (w := w) hb5 (by repeat (first | assumption | exact Below.refl _ _ | (with_reducible refine Below.drew ?_) | (with_reducible refine below_drewN' ?_ _) | (with_reducible refine below_al ?_) | ((with_reducible refine below_set ?_ ?_); rotate_left; focus (first | (simp; done) | (simp; omega)))))
  have le_w_w5 : w.heap.size ≤ w5.heap.size := by omega
  try have lt_w_w5 : w.heap.size < w5.heap.size := by omega
  have le_w1_w5 : w1.heap.size ≤ w5.heap.size := by omega
  try have lt_w1_w5 : w1.heap.size < w5.heap.size := by omega
  have le_w2_w5 : w2.heap.size ≤ w5.heap.size := by omega
  try have lt_w2_w5 : w2.heap.size < w5.heap.size := by omega
  have le_w3_w5 : w3.heap.size ≤ w5.heap.size := by omega
  try have lt_w3_w5 : w3.heap.size < w5.heap.size := by omega
  have le_w4_w5 : w4.heap.size ≤ w5.heap.size := by omega
  try have lt_w4_w5 : w4.heap.size < w5.heap.size := by omega
  go_wp2_with fail
  refine (pr_at H2.out (tus_c _ _ _ _ (hL.below (by repeat (first | assumption | exact Below.refl _ _ | (with_reducible refine Below.drew ?_) | (with_reducible refine below_drewN' ?_ _) | (with_reducible refine below_al ?_) | ((with_reducible refine below_set ?_ ?_); rotate_left; focus (first | (simp; done) | (simp; omega)))))))).mono ?_; rintro e w6 ⟨rfl, hb6⟩
  have hz6 := hb6.size; (try simp at hz6); obtain ⟨hc6, hf6⟩ := bcell hb6; have hB6 := below_step (w := w) hb6 (by repeat (first | assumption | exact Below.refl _ _ | (with_reducible refine Below.drew ?_) | (with_reducible refine below_drewN' ?_ _) | (with_reducible refine below_al ?_) | ((with_reducible refine below_set ?_ ?_); rotate_left; focus (first | (simp; done) | (simp; omega)))))
  have le_w_w6 : w.heap.size ≤ w6.heap.size := by omega
  try have lt_w_w6 : w.heap.size < w6.heap.size := by omega
  have le_w1_w6 : w1.heap.size ≤ w6.heap.size := by omega
  try have lt_w1_w6 : w1.heap.size < w6.heap.size := by omega
  have le_w2_w6 : w2.heap.size ≤ w6.heap.size := by omega
  try have lt_w2_w6 : w2.heap.size < w6.heap.size := by omega
  have le_w3_w6 : w3.heap.size ≤ w6.heap.size := by omega
  try have lt_w3_w6 : w3.heap.size < w6.heap.size := by omega
  have le_w4_w6 : w4.heap.size ≤ w6.heap.size := by omega
  try have lt_w4_w6 : w4.heap.size < w6.heap.size := by omega
  have le_w5_w6 : w5.heap.size ≤ w6.heap.size := by omega
  try have lt_w5_w6 : w5.heap.size < w6.heap.size := by omega
  go_wp2_with fail
  refine (rof_in _ _ _ _ z1 z2 HA _).mono ?_; rintro e w7 ⟨rfl, hb7⟩
  have hz7 := hb7.size; (try simp at hz7); obtain ⟨hc7, hf7⟩ := bcell hb7; have hB7 := below_step (w := w) hb7 (by repeat (first | assumption | exact Below.refl _ _ | (with_reducible refine Below.drew ?_) | (with_reducible refine below_drewN' ?_ _) | (with_reducible refine below_al ?_) | ((with_reducible refine below_set ?_ ?_); rotate_left; focus (first | (simp; done) | (simp; omega)))))
  have le_w_w7 : w.heap.size ≤ w7.heap.size := by omega
  try have lt_w_w7 : w.heap.size < w7.heap.size := by omega
  have le_w1_w7 : w1.heap.size ≤ w7.heap.size := by omega
  try have lt_w1_w7 : w1.heap.size < w7.heap.size := by omega
  have le_w2_w7 : w2.heap.size ≤ w7.heap.size := by omega
  try have lt_w2_w7 : w2.heap.size < w7.heap.size := by omega
  have le_w3_w7 : w3.heap.size ≤ w7.heap.size := by omega
  try have lt_w3_w7 : w3.heap.size < w7.heap.size := by omega
  have le_w4_w7 : w4.heap.size ≤ w7.heap.size := by omega
  try have lt_w4_w7 : w4.heap.size < w7.heap.size := by omega
  have le_w5_w7 : w5.heap.size ≤ w7.heap.size := by omega
  try have lt_w5_w7 : w5.heap.size < w7.heap.size := by omega
  have le_w6_w7 : w6.heap.size ≤ w7.heap.size := by omega
  try have lt_w6_w7 : w6.heap.size < w7.heap.size := by omega
  go_wp2_with fail
  refine (rof_in _ _ _ _ x1 x2 HB' _).mono ?_; rintro e w8 ⟨rfl, hb8⟩
  have hz8 := hb8.size; (try simp at hz8); obtain ⟨hc8, hf8⟩ := bcell hb8; have hB8 := below_step (w := w) hb8 (by repeat (first | assumption | exact Below.refl _ _ | (with_reducible refine Below.drew ?_) | (with_reducible refine below_drewN' ?_ _) | (with_reducible refine below_al ?_) | ((with_reducible refine below_set ?_ ?_); rotate_left; focus (first | (simp; done) | (simp; omega)))))
  have le_w_w8 : w.heap.size ≤ w8.heap.size := by omega
  try have lt_w_w8 : w.heap.size < w8.heap.size := by omega
  have le_w1_w8 : w1.heap.size ≤ w8.heap.size := by omega
  try have lt_w1_w8 : w1.heap.size < w8.heap.size := by omega
  have le_w2_w8 : w2.heap.size ≤ w8.heap.size := by omega
  try have lt_w2_w8 : w2.heap.size < w8.heap.size := by omega
  have le_w3_w8 : w3.heap.size ≤ w8.heap.size := by omega
  try have lt_w3_w8 : w3.heap.size < w8.heap.size := by omega
  have le_w4_w8 : w4.heap.size ≤ w8.heap.size := by omega
  try have lt_w4_w8 : w4.heap.size < w8.heap.size := by omega
  have le_w5_w8 : w5.heap.size ≤ w8.heap.size := by omega
  try have lt_w5_w8 : w5.heap.size < w8.heap.size := by omega
  have le_w6_w8 : w6.heap.size ≤ w8.heap.size := by omega
  try have lt_w6_w8 : w6.heap.size < w8.heap.size := by omega
  have le_w7_w8 : w7.heap.size ≤ w8.heap.size := by omega
  try have lt_w7_w8 : w7.heap.size < w8.heap.size := by omega
  go_wp2_with fail
  go_ret
  exact ⟨rfl, by repeat (first | assumption | exact Below.refl _ _ | (with_reducible refine Below.drew ?_) | (with_reducible refine below_drewN' ?_ _) | (with_reducible refine below_al ?_) | ((with_reducible refine below_set ?_ ?_); rotate_left; focus (first | (simp; done) | (simp; omega))))⟩
theorem thirtyEnds_walk (n k : Int) (k1 : 0 ≤ k) (k2 : k ≤ 65535) (w : World) (hL : Laid w) : Calls Tryd.prog 14 #[.int .i64 n, .int .u16 k] w fun e w' => e = .returned (.bool true) ∧ Below w.heap.size w w' := by
  have hm : k.tmod 401 = k % 401 := Int.tmod_eq_emod_of_nonneg k1
  have m1 : 0 ≤ k % 401 := by omega
  have m2 : k % 401 ≤ 400 := by omega
  generalize k % 401 = m at *
  by_cases hn : 1 ≤ n ∧ n ≤ 3652059
  · have eo := (of_in hn.1 hn.2).2.2.2
    have bz := Mon.end_bd hn.1 hn.2
    have z1 := bz.2.2.1; have z2 := bz.2.2.2
    have iz := Mon.end_isEnd hn.1 hn.2
    rcases Mon.E_cases (Mon.endV n) m with ⟨ok, eE⟩ | ⟨_, eE⟩
    · have iX := Mon.end_move hn.1 hn.2 ok
      have xb := Mon.V_bd (eom := true) ok
      have oV := Mon.of_V (eom := true) ok
      have B := Mon.day (eom := true) ok
      have A := Cal.day_of (Mon.endV n) z1 z2
      have hM := Mon.YN_M (Mon.endV n) m
      have hMd : Mon.M (Mon.endV n) m = 12 * Cal.yOf (Mon.endV n) + Cal.mOf (Mon.endV n) - 1 + m := rfl
      have dz := (Mon.isEnd_iff _).1 iz
      rw [Mon.lastB_in xb.1 xb.2] at iX
      have dx := (Mon.isEnd_iff _).1 iX
      generalize hz : Mon.endV n = z at *
      generalize hx : Mon.V z m true = x at *
      rw [oV.1, oV.2.1, oV.2.2] at dx
      generalize hY : Mon.Y z m = Y at *
      generalize hNN : Mon.N z m = N at *
      generalize hDD : Mon.D z m true = Dd at *
      have bn1 := B.m1; have bn2 := B.m2; have an1 := A.m1; have an2 := A.m2
      have hle : z ≤ x := by
        rcases Int.lt_or_le x z with h | h
        · exfalso
          rcases (Cal.lt_iff B A).1 h with h | ⟨h, h' | ⟨h', h''⟩⟩
          · omega
          · omega
          · rw [dx, dz, h, h'] at h''; omega
        · exact h
      obtain ⟨e1, e2⟩ := Thi.ends z1 z2 xb.1 xb.2 iz iX
      obtain ⟨nn, hnn⟩ : ∃ nn : Nat, m = (nn : Int) := ⟨m.toNat, by omega⟩
      have hb : Thi.base z x = ((30 * nn : Nat) : Int) := by unfold Thi.base; rw [oV.1, oV.2.1]; omega
      obtain ⟨s1, s2⟩ := Thi.r_scale 30 nn 12 (by decide)
      have key : ∀ Q, Q = Thi.base z x → Thi.prN Q z x = Thi.rN nn 12 ∧ Thi.prD Q z x = Thi.rD nn 12 ∧ Thi.prE z x = 0 := by
        intro Q hQ
        obtain ⟨f1, f2, f3⟩ := Thi.pr_ok Q z1 z2 xb.1 xb.2 hle
        have hm : (max 0 Q).toNat = 30 * nn := by rw [hQ, hb]; omega
        rw [f1, f2, f3, hm]; exact ⟨s1, s2, rfl⟩
      have pe := (key _ rfl).2.2
      by_cases c1 : Cal.mOf z = 2
      · have k2' := key _ (e2 (fun h => h.1 c1))
        exact tends_ok2 n k m z x (Thi.rN nn 12) (Thi.rD nn 12) _ _ _ _ _ _ _ _ nn k1 k2 hm m1 m2 (Lib.hid ⟨hz, eo⟩) (Lib.hid ⟨hx, eE⟩) z1 z2 xb.1 xb.2 (Lib.hid hnn) (by omega) (Lib.hid ⟨rfl, rfl⟩) (Lib.hid (key _ e1)) (Lib.hid ⟨rfl, rfl, rfl⟩) (Lib.hid ⟨rfl, rfl, rfl⟩) (Lib.hid k2') (beq_iff_eq.2 c1) (by rw [c1]; rfl) rfl rfl w hL
      · have c1a : (Cal.mOf z == 2) = false := beq_eq_false_iff_ne.2 c1
        have c1b : (Cal.mOf z != 2) = true := by simp [bne, c1a]
        by_cases c2 : Cal.mOf x = 2
        · exact tends_ok1 n k m z x (Thi.rN nn 12) (Thi.rD nn 12) _ _ _ _ _ _ _ _ nn k1 k2 hm m1 m2 (Lib.hid ⟨hz, eo⟩) (Lib.hid ⟨hx, eE⟩) z1 z2 xb.1 xb.2 (Lib.hid hnn) (by omega) (Lib.hid ⟨rfl, rfl⟩) (Lib.hid (key _ e1)) (Lib.hid ⟨rfl, rfl, rfl⟩) (Lib.hid ⟨rfl, rfl, rfl⟩) (Lib.hid ⟨rfl, rfl, pe⟩) c1a c1b (beq_iff_eq.2 c2) w hL
        · have k2' := key _ (e2 (fun h => c2 h.2))
          exact tends_ok3 n k m z x (Thi.rN nn 12) (Thi.rD nn 12) _ _ _ _ _ _ _ _ nn k1 k2 hm m1 m2 (Lib.hid ⟨hz, eo⟩) (Lib.hid ⟨hx, eE⟩) z1 z2 xb.1 xb.2 (Lib.hid hnn) (by omega) (Lib.hid ⟨rfl, rfl⟩) (Lib.hid (key _ e1)) (Lib.hid ⟨rfl, rfl, rfl⟩) (Lib.hid ⟨rfl, rfl, rfl⟩) (Lib.hid k2') c1a c1b (beq_eq_false_iff_ne.2 c2) rfl rfl w hL
    · exact tends_odd n k m _ _ k1 k2 hm m1 m2 (Lib.hid ⟨rfl, eo⟩) (Lib.hid ⟨rfl, eE⟩) w hL
  · exact tends_bad n k m _ _ _ k1 k2 hm m1 m2 (Lib.hid ⟨rfl, (of_out (by omega)).2.2.2⟩) (Lib.hid ⟨rfl, rfl⟩) w hL
end Go.Proofs.YtjcjchapfiokeaaDoor
