/- The walk of ThirtyYears: the law returns true for every input. Conditions: the table of months' lengths lies as the program's text lays it. -/
import Derived.Test.YtjcjchapfiokeaaDoorThiS
import Derived.Test.YtjcjchapfiokeaaDoorThiG
namespace Go.Proofs.YtjcjchapfiokeaaDoor
open Go.RowKit
set_option linter.unusedVariables false
theorem rnum_at (y m d v x : Int) (h : Hid (numV y m d = v ∧ numE y m d = x)) (w : World) : Calls Tryd.prog 36 #[.agg #[.int .i64 y, .int .i64 m, .int .i64 d]] w fun e w' => e = .returned (.tuple #[.int .i64 v, .int .i64 x]) ∧ Below w.heap.size w w' := by
  have g := rnumber_c y m d w
  rw [h.out.1, h.out.2] at g; exact g
theorem dnew12 (x : Int) (nn : Nat) (hx : x = (nn : Int)) (hnn : nn ≤ 4000000) (w : World) : Calls Tryd.prog 37 #[.int .i64 x, .int .i64 12] w fun e w' => e = .returned (.tuple #[.agg #[.int .i64 (Thi.rN nn 12), .int .i64 (Thi.rD nn 12)], .int .i64 0]) ∧ Below w.heap.size w w' := by
  subst hx; exact dnew_c nn 12 (by omega) (by omega) (by omega) w
set_option maxHeartbeats 4000000 in
theorem tyears_none (n k j : Int) (eom : Bool)  (k1 : 0 ≤ k) (k2 : k ≤ 255) (j1 : 0 ≤ j) (j2 : j ≤ 255) (h : dayB n = false) (w : World) (hL : Laid w) : Calls Tryd.prog 10 #[.agg #[.int .i64 n, .int .u8 k, .int .u8 j, .bool eom]] w fun e w' => e = .returned (.bool true) ∧ Below w.heap.size w w' := by
  have hB : Below w.heap.size w w := Below.refl _ _
  go_enter Tryd.func10, Tryd.ntmps10
  go_wp2_with fail
  refine (shown07_c _ (hL.below (by repeat (first | assumption | exact Below.refl _ _ | (with_reducible refine Below.drew ?_) | (with_reducible refine below_drewN' ?_ _) | (with_reducible refine below_al ?_) | ((with_reducible refine below_set ?_ ?_); rotate_left; focus (first | (simp; done) | (simp; omega))))))).mono ?_; rintro e w1 ⟨rfl, hb1⟩
  have hz1 := hb1.size; (try simp at hz1); obtain ⟨hc1, hf1⟩ := bcell hb1; have hB1 := below_step (w := w) hb1 (by repeat (first | assumption | exact Below.refl _ _ | (with_reducible refine Below.drew ?_) | (with_reducible refine below_drewN' ?_ _) | (with_reducible refine below_al ?_) | ((with_reducible refine below_set ?_ ?_); rotate_left; focus (first | (simp; done) | (simp; omega)))))
  have le_w_w1 : w.heap.size ≤ w1.heap.size := by omega
  try have lt_w_w1 : w.heap.size < w1.heap.size := by omega
  go_wp2_with fail
  refine (rday_c _ _).mono ?_; rintro e w' ⟨rfl, rfl⟩
  rw [h]
  go_wp2_with fail
  go_ret
  exact ⟨rfl, by repeat (first | assumption | exact Below.refl _ _ | (with_reducible refine Below.drew ?_) | (with_reducible refine below_drewN' ?_ _) | (with_reducible refine below_al ?_) | ((with_reducible refine below_set ?_ ?_); rotate_left; focus (first | (simp; done) | (simp; omega))))⟩
set_option maxHeartbeats 4000000 in
theorem tyears_bad (n k j : Int) (eom : Bool) (y m d t q r v x : Int) (k1 : 0 ≤ k) (k2 : k ≤ 255) (j1 : 0 ≤ j) (j2 : j ≤ 255) (hd : dayB n = true) (n1 : 1 ≤ n) (n2 : n ≤ 3652059) (HA : Hid (Cal.yOf n = y ∧ Cal.mOf n = m ∧ Cal.dOf n = d)) (y1 : 1 ≤ y) (y2 : y ≤ 9999) (m1 : 1 ≤ m) (m2 : m ≤ 12) (ht : j.tmod 60 = t) (t1 : 0 ≤ t) (t2 : t ≤ 59) (hq : (m - 1 + t).tdiv 12 = q) (hr : (m - 1 + t).tmod 12 = r) (q1 : 0 ≤ q) (q2 : q ≤ 6) (r1 : 0 ≤ r) (r2 : r ≤ 11) (HV : Hid (numV (y + k + q) (r + 1) d = v ∧ numE (y + k + q) (r + 1) d = x)) (hx : (x == 0) = false) (hx' : (x != 0) = true) (w : World) (hL : Laid w) : Calls Tryd.prog 10 #[.agg #[.int .i64 n, .int .u8 k, .int .u8 j, .bool eom]] w fun e w' => e = .returned (.bool true) ∧ Below w.heap.size w w' := by
  have hB : Below w.heap.size w w := Below.refl _ _
  have w1 : IntKind.i64.wrap k = k := IntWalk.i64_in _ (by omega)
  have w2 : IntKind.i64.wrap j = j := IntWalk.i64_in _ (by omega)
  have w3 : j.tmod 60 = t := ht
  have w4 : IntKind.i64.wrap (m - 1) = m - 1 := IntWalk.i64_in _ (by omega)
  have w5 : IntKind.i64.wrap (m - 1 + t) = m - 1 + t := IntWalk.i64_in _ (by omega)
  have w5' : IntKind.i64.wrap t = t := IntWalk.i64_in _ (by omega)
  have w6 : (m - 1 + t).tdiv 12 = q := hq
  have w7 : (m - 1 + t).tmod 12 = r := hr
  have w8 : IntKind.i64.wrap (y + k) = y + k := IntWalk.i64_in _ (by omega)
  have w9 : IntKind.i64.wrap (y + k + q) = y + k + q := IntWalk.i64_in _ (by omega)
  have wa : IntKind.i64.wrap (r + 1) = r + 1 := IntWalk.i64_in _ (by omega)
  have wb : IntKind.i64.wrap q = q := IntWalk.i64_in _ (by omega)
  have wc : IntKind.i64.wrap r = r := IntWalk.i64_in _ (by omega)
  have wd : IntKind.i64.wrap (12 * k) = 12 * k := IntWalk.i64_in _ (by omega)
  have we : IntKind.i64.wrap (12 * k + t) = 12 * k + t := IntWalk.i64_in _ (by omega)
  have HD := Lib.hid hd; clear hd ht hq hr
  go_enter Tryd.func10, Tryd.ntmps10
  go_wp2_with fail
  refine (shown07_c _ (hL.below (by repeat (first | assumption | exact Below.refl _ _ | (with_reducible refine Below.drew ?_) | (with_reducible refine below_drewN' ?_ _) | (with_reducible refine below_al ?_) | ((with_reducible refine below_set ?_ ?_); rotate_left; focus (first | (simp; done) | (simp; omega))))))).mono ?_; rintro e w1 ⟨rfl, hb1⟩
  have hz1 := hb1.size; (try simp at hz1); obtain ⟨hc1, hf1⟩ := bcell hb1; have hB1 := below_step (w := w) hb1 (by repeat (first | assumption | exact Below.refl _ _ | (with_reducible refine Below.drew ?_) | (with_reducible refine below_drewN' ?_ _) | (with_reducible refine below_al ?_) | ((with_reducible refine below_set ?_ ?_); rotate_left; focus (first | (simp; done) | (simp; omega)))))
  have le_w_w1 : w.heap.size ≤ w1.heap.size := by omega
  try have lt_w_w1 : w.heap.size < w1.heap.size := by omega
  go_wp2_with fail
  refine (rday_c _ _).mono ?_; rintro e w' ⟨rfl, rfl⟩
  rw [HD.out]
  go_wp2_with fail
  refine (rof_in _ _ _ _ n1 n2 HA _).mono ?_; rintro e w2 ⟨rfl, hb2⟩
  have hz2 := hb2.size; (try simp at hz2); obtain ⟨hc2, hf2⟩ := bcell hb2; have hB2 := below_step (w := w) hb2 (by repeat (first | assumption | exact Below.refl _ _ | (with_reducible refine Below.drew ?_) | (with_reducible refine below_drewN' ?_ _) | (with_reducible refine below_al ?_) | ((with_reducible refine below_set ?_ ?_); rotate_left; focus (first | (simp; done) | (simp; omega)))))
  have le_w_w2 : w.heap.size ≤ w2.heap.size := by omega
  try have lt_w_w2 : w.heap.size < w2.heap.size := by omega
  have le_w1_w2 : w1.heap.size ≤ w2.heap.size := by omega
  try have lt_w1_w2 : w1.heap.size < w2.heap.size := by omega
  go_wp2_with fail
  refine (rnum_at _ _ _ _ _ HV _).mono ?_; rintro e w3 ⟨rfl, hb3⟩
  have hz3 := hb3.size; (try simp at hz3); obtain ⟨hc3, hf3⟩ := bcell hb3; have hB3 := below_step (w := w) hb3 (by repeat (first | assumption | exact Below.refl _ _ | (with_reducible refine Below.drew ?_) | (with_reducible refine below_drewN' ?_ _) | (with_reducible refine below_al ?_) | ((with_reducible refine below_set ?_ ?_); rotate_left; focus (first | (simp; done) | (simp; omega)))))
  have le_w_w3 : w.heap.size ≤ w3.heap.size := by omega
  try have lt_w_w3 : w.heap.size < w3.heap.size := by omega
  have le_w1_w3 : w1.heap.size ≤ w3.heap.size := by omega
  try have lt_w1_w3 : w1.heap.size < w3.heap.size := by omega
  have le_w2_w3 : w2.heap.size ≤ w3.heap.size := by omega
  try have lt_w2_w3 : w2.heap.size < w3.heap.size := by omega
  go_wp2_with fail
  go_ret
  exact ⟨rfl, by repeat (first | assumption | exact Below.refl _ _ | (with_reducible refine Below.drew ?_) | (with_reducible refine below_drewN' ?_ _) | (with_reducible refine below_al ?_) | ((with_reducible refine below_set ?_ ?_); rotate_left; focus (first | (simp; done) | (simp; omega))))⟩
set_option maxHeartbeats 4000000 in
theorem tyears_far (n k j : Int) (eom : Bool) (y m d t q r v x : Int) (k1 : 0 ≤ k) (k2 : k ≤ 255) (j1 : 0 ≤ j) (j2 : j ≤ 255) (hd : dayB n = true) (n1 : 1 ≤ n) (n2 : n ≤ 3652059) (HA : Hid (Cal.yOf n = y ∧ Cal.mOf n = m ∧ Cal.dOf n = d)) (y1 : 1 ≤ y) (y2 : y ≤ 9999) (m1 : 1 ≤ m) (m2 : m ≤ 12) (ht : j.tmod 60 = t) (t1 : 0 ≤ t) (t2 : t ≤ 59) (hq : (m - 1 + t).tdiv 12 = q) (hr : (m - 1 + t).tmod 12 = r) (q1 : 0 ≤ q) (q2 : q ≤ 6) (r1 : 0 ≤ r) (r2 : r ≤ 11) (HV : Hid (numV (y + k + q) (r + 1) d = v ∧ numE (y + k + q) (r + 1) d = x)) (hx : x = 0) (d1 : 27 < d) (w : World) (hL : Laid w) : Calls Tryd.prog 10 #[.agg #[.int .i64 n, .int .u8 k, .int .u8 j, .bool eom]] w fun e w' => e = .returned (.bool true) ∧ Below w.heap.size w w' := by
  have hB : Below w.heap.size w w := Below.refl _ _
  subst hx
  have w1 : IntKind.i64.wrap k = k := IntWalk.i64_in _ (by omega)
  have w2 : IntKind.i64.wrap j = j := IntWalk.i64_in _ (by omega)
  have w3 : j.tmod 60 = t := ht
  have w4 : IntKind.i64.wrap (m - 1) = m - 1 := IntWalk.i64_in _ (by omega)
  have w5 : IntKind.i64.wrap (m - 1 + t) = m - 1 + t := IntWalk.i64_in _ (by omega)
  have w5' : IntKind.i64.wrap t = t := IntWalk.i64_in _ (by omega)
  have w6 : (m - 1 + t).tdiv 12 = q := hq
  have w7 : (m - 1 + t).tmod 12 = r := hr
  have w8 : IntKind.i64.wrap (y + k) = y + k := IntWalk.i64_in _ (by omega)
  have w9 : IntKind.i64.wrap (y + k + q) = y + k + q := IntWalk.i64_in _ (by omega)
  have wa : IntKind.i64.wrap (r + 1) = r + 1 := IntWalk.i64_in _ (by omega)
  have wb : IntKind.i64.wrap q = q := IntWalk.i64_in _ (by omega)
  have wc : IntKind.i64.wrap r = r := IntWalk.i64_in _ (by omega)
  have wd : IntKind.i64.wrap (12 * k) = 12 * k := IntWalk.i64_in _ (by omega)
  have we : IntKind.i64.wrap (12 * k + t) = 12 * k + t := IntWalk.i64_in _ (by omega)
  have HD := Lib.hid hd; clear hd ht hq hr
  go_enter Tryd.func10, Tryd.ntmps10
  go_wp2_with fail
  refine (shown07_c _ (hL.below (by repeat (first | assumption | exact Below.refl _ _ | (with_reducible refine Below.drew ?_) | (with_reducible refine below_drewN' ?_ _) | (with_reducible refine below_al ?_) | ((with_reducible refine below_set ?_ ?_); rotate_left; focus (first | (simp; done) | (simp; omega))))))).mono ?_; rintro e w1 ⟨rfl, hb1⟩
  have hz1 := hb1.size; (try simp at hz1); obtain ⟨hc1, hf1⟩ := bcell hb1; have hB1 := below_step (w := w) hb1 (by repeat (first | assumption | exact Below.refl _ _ | (with_reducible refine Below.drew ?_) | (with_reducible refine below_drewN' ?_ _) | (with_reducible refine below_al ?_) | ((with_reducible refine below_set ?_ ?_); rotate_left; focus (first | (simp; done) | (simp; omega)))))
  have le_w_w1 : w.heap.size ≤ w1.heap.size := by omega
  try have lt_w_w1 : w.heap.size < w1.heap.size := by omega
  go_wp2_with fail
  refine (rday_c _ _).mono ?_; rintro e w' ⟨rfl, rfl⟩
  rw [HD.out]
  go_wp2_with fail
  refine (rof_in _ _ _ _ n1 n2 HA _).mono ?_; rintro e w2 ⟨rfl, hb2⟩
  have hz2 := hb2.size; (try simp at hz2); obtain ⟨hc2, hf2⟩ := bcell hb2; have hB2 := below_step (w := w) hb2 (by repeat (first | assumption | exact Below.refl _ _ | (with_reducible refine Below.drew ?_) | (with_reducible refine below_drewN' ?_ _) | (with_reducible refine below_al ?_) | ((with_reducible refine below_set ?_ ?_); rotate_left; focus (first | (simp; done) | (simp; omega)))))
  have le_w_w2 : w.heap.size ≤ w2.heap.size := by omega
  try have lt_w_w2 : w.heap.size < w2.heap.size := by omega
  have le_w1_w2 : w1.heap.size ≤ w2.heap.size := by omega
  try have lt_w1_w2 : w1.heap.size < w2.heap.size := by omega
  go_wp2_with fail
  refine (rnum_at _ _ _ _ _ HV _).mono ?_; rintro e w3 ⟨rfl, hb3⟩
  have hz3 := hb3.size; (try simp at hz3); obtain ⟨hc3, hf3⟩ := bcell hb3; have hB3 := below_step (w := w) hb3 (by repeat (first | assumption | exact Below.refl _ _ | (with_reducible refine Below.drew ?_) | (with_reducible refine below_drewN' ?_ _) | (with_reducible refine below_al ?_) | ((with_reducible refine below_set ?_ ?_); rotate_left; focus (first | (simp; done) | (simp; omega)))))
  have le_w_w3 : w.heap.size ≤ w3.heap.size := by omega
  try have lt_w_w3 : w.heap.size < w3.heap.size := by omega
  have le_w1_w3 : w1.heap.size ≤ w3.heap.size := by omega
  try have lt_w1_w3 : w1.heap.size < w3.heap.size := by omega
  have le_w2_w3 : w2.heap.size ≤ w3.heap.size := by omega
  try have lt_w2_w3 : w2.heap.size < w3.heap.size := by omega
  go_wp2_with fail
  go_ret
  exact ⟨rfl, by repeat (first | assumption | exact Below.refl _ _ | (with_reducible refine Below.drew ?_) | (with_reducible refine below_drewN' ?_ _) | (with_reducible refine below_al ?_) | ((with_reducible refine below_set ?_ ?_); rotate_left; focus (first | (simp; done) | (simp; omega))))⟩
set_option maxHeartbeats 4000000 in
theorem tyears_ok (n k j : Int) (eom : Bool) (y m d t q r v x : Int) (P D : Int) (nn : Nat) (k1 : 0 ≤ k) (k2 : k ≤ 255) (j1 : 0 ≤ j) (j2 : j ≤ 255) (hd : dayB n = true) (n1 : 1 ≤ n) (n2 : n ≤ 3652059) (HA : Hid (Cal.yOf n = y ∧ Cal.mOf n = m ∧ Cal.dOf n = d)) (y1 : 1 ≤ y) (y2 : y ≤ 9999) (m1 : 1 ≤ m) (m2 : m ≤ 12) (ht : j.tmod 60 = t) (t1 : 0 ≤ t) (t2 : t ≤ 59) (hq : (m - 1 + t).tdiv 12 = q) (hr : (m - 1 + t).tmod 12 = r) (q1 : 0 ≤ q) (q2 : q ≤ 6) (r1 : 0 ≤ r) (r2 : r ≤ 11) (HV : Hid (numV (y + k + q) (r + 1) d = v ∧ numE (y + k + q) (r + 1) d = x)) (hx : x = 0) (d1 : ¬ 27 < d) (HN : Hid (12 * k + t = (nn : Int))) (hnn : nn ≤ 4000000) (HW : Hid (Thi.rN nn 12 = P ∧ Thi.rD nn 12 = D)) (H1 : Hid (Thi.prN (Thi.usN n v eom) n v = P ∧ Thi.prD (Thi.usN n v eom) n v = D ∧ Thi.prE n v = 0)) (H2 : Hid (Thi.prN (Thi.eN n v) n v = P ∧ Thi.prD (Thi.eN n v) n v = D ∧ Thi.prE n v = 0)) (H3 : Hid (Thi.prN (Thi.isN n v v) n v = P ∧ Thi.prD (Thi.isN n v v) n v = D ∧ Thi.prE n v = 0)) (w : World) (hL : Laid w) : Calls Tryd.prog 10 #[.agg #[.int .i64 n, .int .u8 k, .int .u8 j, .bool eom]] w fun e w' => e = .returned (.bool true) ∧ Below w.heap.size w w' := by
  have hB : Below w.heap.size w w := Below.refl _ _
  subst hx
  have w1 : IntKind.i64.wrap k = k := IntWalk.i64_in _ (by omega)
  have w2 : IntKind.i64.wrap j = j := IntWalk.i64_in _ (by omega)
  have w3 : j.tmod 60 = t := ht
  have w4 : IntKind.i64.wrap (m - 1) = m - 1 := IntWalk.i64_in _ (by omega)
  have w5 : IntKind.i64.wrap (m - 1 + t) = m - 1 + t := IntWalk.i64_in _ (by omega)
  have w5' : IntKind.i64.wrap t = t := IntWalk.i64_in _ (by omega)
  have w6 : (m - 1 + t).tdiv 12 = q := hq
  have w7 : (m - 1 + t).tmod 12 = r := hr
  have w8 : IntKind.i64.wrap (y + k) = y + k := IntWalk.i64_in _ (by omega)
  have w9 : IntKind.i64.wrap (y + k + q) = y + k + q := IntWalk.i64_in _ (by omega)
  have wa : IntKind.i64.wrap (r + 1) = r + 1 := IntWalk.i64_in _ (by omega)
  have wb : IntKind.i64.wrap q = q := IntWalk.i64_in _ (by omega)
  have wc : IntKind.i64.wrap r = r := IntWalk.i64_in _ (by omega)
  have wd : IntKind.i64.wrap (12 * k) = 12 * k := IntWalk.i64_in _ (by omega)
  have we : IntKind.i64.wrap (12 * k + t) = 12 * k + t := IntWalk.i64_in _ (by omega)
  have HD := Lib.hid hd; clear hd ht hq hr
  go_enter Tryd.func10, Tryd.ntmps10
  go_wp2_with fail
  refine (shown07_c _ (hL.below (by repeat (first | assumption | exact Below.refl _ _ | (with_reducible refine Below.drew ?_) | (with_reducible refine below_drewN' ?_ _) | (with_reducible refine below_al ?_) | ((with_reducible refine below_set ?_ ?_); rotate_left; focus (first | (simp; done) | (simp; omega))))))).mono ?_; rintro e w1 ⟨rfl, hb1⟩
  have hz1 := hb1.size; (try simp at hz1); obtain ⟨hc1, hf1⟩ := bcell hb1; have hB1 := below_step (w := w) hb1 (by repeat (first | assumption | exact Below.refl _ _ | (with_reducible refine Below.drew ?_) | (with_reducible refine below_drewN' ?_ _) | (with_reducible refine below_al ?_) | ((with_reducible refine below_set ?_ ?_); rotate_left; focus (first | (simp; done) | (simp; omega)))))
  have le_w_w1 : w.heap.size ≤ w1.heap.size := by omega
  try have lt_w_w1 : w.heap.size < w1.heap.size := by omega
  go_wp2_with fail
  refine (rday_c _ _).mono ?_; rintro e w' ⟨rfl, rfl⟩
  rw [HD.out]
  go_wp2_with fail
  refine (rof_in _ _ _ _ n1 n2 HA _).mono ?_; rintro e w2 ⟨rfl, hb2⟩
  have hz2 := hb2.size; (try simp at hz2); obtain ⟨hc2, hf2⟩ := bcell hb2; have hB2 := below_step (w := w) hb2 (by repeat (first | assumption | exact Below.refl _ _ | (with_reducible refine Below.drew ?_) | (with_reducible refine below_drewN' ?_ _) | (with_reducible refine below_al ?_) | ((with_reducible refine below_set ?_ ?_); rotate_left; focus (first | (simp; done) | (simp; omega)))))
  have le_w_w2 : w.heap.size ≤ w2.heap.size := by omega
  try have lt_w_w2 : w.heap.size < w2.heap.size := by omega
  have le_w1_w2 : w1.heap.size ≤ w2.heap.size := by omega
  try have lt_w1_w2 : w1.heap.size < w2.heap.size := by omega
  go_wp2_with fail
  refine (rnum_at _ _ _ _ _ HV _).mono ?_; rintro e w3 ⟨rfl, hb3⟩
  have hz3 := hb3.size; (try simp at hz3); obtain ⟨hc3, hf3⟩ := bcell hb3; have hB3 := below_step (w := w) hb3 (by repeat (first | assumption | exact Below.refl _ _ | (with_reducible refine Below.drew ?_) | (with_reducible refine below_drewN' ?_ _) | (with_reducible refine below_al ?_) | ((with_reducible refine below_set ?_ ?_); rotate_left; focus (first | (simp; done) | (simp; omega)))))
  have le_w_w3 : w.heap.size ≤ w3.heap.size := by omega
  try have lt_w_w3 : w.heap.size < w3.heap.size := by omega
  have le_w1_w3 : w1.heap.size ≤ w3.heap.size := by omega
  try have lt_w1_w3 : w1.heap.size < w3.heap.size := by omega
  have le_w2_w3 : w2.heap.size ≤ w3.heap.size := by omega
  try have lt_w2_w3 : w2.heap.size < w3.heap.size := by omega
  go_wp2_with fail
  refine (dnew12 _ nn HN.out hnn _).mono ?_; rintro e w4 ⟨rfl, hb4⟩
  have hz4 := hb4.size; (try simp at hz4); obtain ⟨hc4, hf4⟩ := bcell hb4; have hB4 := below_step (w := w) hb4 (by repeat (first | assumption | exact Below.refl _ _ | (with_reducible refine Below.drew ?_) | (with_reducible refine below_drewN' ?_ _) | (with_reducible refine below_al ?_) | ((with_reducible refine below_set ?_ ?_); rotate_left; focus (first | (simp; done) | (simp; omega)))))
  have le_w_w4 : w.heap.size ≤ w4.heap.size := by omega
  try have lt_w_w4 : w.heap.size < w4.heap.size := by omega
  have le_w1_w4 : w1.heap.size ≤ w4.heap.size := by omega
  try have lt_w1_w4 : w1.heap.size < w4.heap.size := by omega
  have le_w2_w4 : w2.heap.size ≤ w4.heap.size := by omega
  try have lt_w2_w4 : w2.heap.size < w4.heap.size := by omega
  have le_w3_w4 : w3.heap.size ≤ w4.heap.size := by omega
  try have lt_w3_w4 : w3.heap.size < w4.heap.size := by omega
  rw [HW.out.1, HW.out.2]
  go_wp2_with fail
  refine (pr_at H1.out (tus_c _ _ _ _ (hL.below (by repeat (first | assumption | exact Below.refl _ _ | (with_reducible refine Below.drew ?_) | (with_reducible refine below_drewN' ?_ _) | (with_reducible refine below_al ?_) | ((with_reducible refine below_set ?_ ?_); rotate_left; focus (first | (simp; done) | (simp; omega)))))))).mono ?_; rintro e w5 ⟨rfl, hb5⟩
  have hz5 := hb5.size; (try simp at hz5); obtain ⟨hc5, hf5⟩ := bcell hb5; have hB5 := below_step (w := w) hb5 (by repeat (first | assumption | exact Below.refl _ _ | (with_reducible refine Below.drew ?_) | (with_reducible refine below_drewN' ?_ _) | (with_reducible refine below_al ?_) | ((with_reducible refine below_set ?_ ?_); rotate_left; focus (first | (simp; done) | (simp; omega)))))
  have le_w_w5 : w.heap.size ≤ w5.heap.size := by omega
  try have lt_w_w5 : w.heap.size < w5.heap.size := by omega
  have le_w1_w5 : w1.heap.size ≤ w5.heap.size := by omega
  try have lt_w1_w5 : w1.heap.size < w5.heap.size := by omega
  have le_w2_w5 : w2.heap.size ≤ w5.heap.size := by omega
  try have lt_w2_w5 : w2.heap.size < w5.heap.size := by omega
  have le_w3_w5 : w3.heap.size ≤ w5.heap.size := by omega
  try have lt_w3_w5 : w3.heap.size < w5.heap.size := by omega
  have le_w4_w5 : w4.heap.size ≤ w5.heap.size := by omega
  try have lt_w4_w5 : w4.heap.size < w5.heap.size := by omega
  go_wp2_with fail
  refine (pr_at H2.out (te_c _ _ _ (hL.below (by repeat (first | assumption | exact Below.refl _ _ | (with_reducible refine Below.drew ?_) | (with_reducible refine below_drewN' ?_ _) | (with_reducible refine below_al ?_) | ((with_reducible refine below_set ?_ ?_); rotate_left; focus (first | (simp; done) | (simp; omega)))))))).mono ?_; rintro e w6 ⟨rfl, hb6⟩
  have hz6 := hb6.size; (try simp at hz6); obtain ⟨hc6, hf6⟩ := bcell hb6; have hB6 := below_step (w := w) hb6 (by repeat (first | assumption | exact Below.refl _ _ | (with_reducible refine Below.drew ?_) | (with_reducible refine below_drewN' ?_ _) | (with_reducible refine below_al ?_) | ((with_reducible refine below_set ?_ ?_); rotate_left; focus (first | (simp; done) | (simp; omega)))))
  have le_w_w6 : w.heap.size ≤ w6.heap.size := by omega
  try have lt_w_w6 : w.heap.size < w6.heap.size := by omega
  have le_w1_w6 : w1.heap.size ≤ w6.heap.size := by omega
  try have lt_w1_w6 : w1.heap.size < w6.heap.size := by omega
  have le_w2_w6 : w2.heap.size ≤ w6.heap.size := by omega
  try have lt_w2_w6 : w2.heap.size < w6.heap.size := by omega
  have le_w3_w6 : w3.heap.size ≤ w6.heap.size := by omega
  try have lt_w3_w6 : w3.heap.size < w6.heap.size := by omega
  have le_w4_w6 : w4.heap.size ≤ w6.heap.size := by omega
  try have lt_w4_w6 : w4.heap.size < w6.heap.size := by omega
  have le_w5_w6 : w5.heap.size ≤ w6.heap.size := by omega
  try have lt_w5_w6 : w5.heap.size < w6.heap.size := by omega
  go_wp2_with fail
  refine (pr_at H3.out (tis_c _ _ _ _ (hL.below (by repeat (first | assumption | exact Below.refl _ _ | (with_reducible refine Below.drew ?_) | (with_reducible refine below_drewN' ?_ _) | (with_reducible refine below_al ?_) | ((with_reducible refine below_set ?_ ?_); rotate_left; focus (first | (simp; done) | (simp; omega)))))))).mono ?_; rintro e w7 ⟨rfl, hb7⟩
  have hz7 := hb7.size; (try simp at hz7); obtain ⟨hc7, hf7⟩ := bcell hb7; have hB7 := below_step (w := w) hb7 (by repeat (first | assumption | exact Below.refl _ _ | (with_reducible refine Below.drew ?_) | (with_reducible refine below_drewN' ?_ _) | (with_reducible refine below_al ?_) | ((with_reducible refine below_set ?_ ?_); rotate_left; focus (first | (simp; done) | (simp; omega)))))
  have le_w_w7 : w.heap.size ≤ w7.heap.size := by omega
  try have lt_w_w7 : w.heap.size < w7.heap.size := by omega
  have le_w1_w7 : w1.heap.size ≤ w7.heap.size := by omega
  try have lt_w1_w7 : w1.heap.size < w7.heap.size := by omega
  have le_w2_w7 : w2.heap.size ≤ w7.heap.size := by omega
  try have lt_w2_w7 : w2.heap.size < w7.heap.size := by omega
  have le_w3_w7 : w3.heap.size ≤ w7.heap.size := by omega
  try have lt_w3_w7 : w3.heap.size < w7.heap.size := by omega
  have le_w4_w7 : w4.heap.size ≤ w7.heap.size := by omega
  try have lt_w4_w7 : w4.heap.size < w7.heap.size := by omega
  have le_w5_w7 : w5.heap.size ≤ w7.heap.size := by omega
  try have lt_w5_w7 : w5.heap.size < w7.heap.size := by omega
  have le_w6_w7 : w6.heap.size ≤ w7.heap.size := by omega
  try have lt_w6_w7 : w6.heap.size < w7.heap.size := by omega
  go_wp2_with fail
  go_ret
  exact ⟨rfl, by repeat (first | assumption | exact Below.refl _ _ | (with_reducible refine Below.drew ?_) | (with_reducible refine below_drewN' ?_ _) | (with_reducible refine below_al ?_) | ((with_reducible refine below_set ?_ ?_); rotate_left; focus (first | (simp; done) | (simp; omega))))⟩
theorem thirtyYears_walk (n k j : Int) (eom : Bool) (k1 : 0 ≤ k) (k2 : k ≤ 255) (j1 : 0 ≤ j) (j2 : j ≤ 255) (w : World) (hL : Laid w) : Calls Tryd.prog 10 #[.agg #[.int .i64 n, .int .u8 k, .int .u8 j, .bool eom]] w fun e w' => e = .returned (.bool true) ∧ Below w.heap.size w w' := by
  by_cases hn : 1 ≤ n ∧ n ≤ 3652059
  · obtain ⟨n1, n2⟩ := hn
    have hd := dayB_in n1 n2
    have A := Cal.day_of n n1 n2
    have a1 := A.y1; have a2 := A.y2; have a3 := A.m1; have a4 := A.m2
    have ht : j.tmod 60 = j % 60 := Int.tmod_eq_emod_of_nonneg j1
    have hq : (Cal.mOf n - 1 + j % 60).tdiv 12 = (Cal.mOf n - 1 + j % 60) / 12 := Int.tdiv_eq_ediv_of_nonneg (by omega)
    have hr : (Cal.mOf n - 1 + j % 60).tmod 12 = (Cal.mOf n - 1 + j % 60) % 12 := Int.tmod_eq_emod_of_nonneg (by omega)
    cases hv : Cal.mayB (Cal.yOf n + k + (Cal.mOf n - 1 + j % 60) / 12) ((Cal.mOf n - 1 + j % 60) % 12 + 1) (Cal.dOf n)
    · exact tyears_bad n k j eom _ _ _ _ _ _ 0 3 k1 k2 j1 j2 hd n1 n2 (Lib.hid ⟨rfl, rfl, rfl⟩) a1 a2 a3 a4 ht (by omega) (by omega) hq hr (by omega) (by omega) (by omega) (by omega) (Lib.hid (numV_no hv)) rfl rfl w hL
    · have hV := numV_yes hv
      by_cases d1 : 27 < Cal.dOf n
      · exact tyears_far n k j eom _ _ _ _ _ _ _ 0 k1 k2 j1 j2 hd n1 n2 (Lib.hid ⟨rfl, rfl, rfl⟩) a1 a2 a3 a4 ht (by omega) (by omega) hq hr (by omega) (by omega) (by omega) (by omega) (Lib.hid hV) rfl d1 w hL
      · have B := Cal.day_mk hv
        have Bb := B.bd
        obtain ⟨b1, b2, b3⟩ := B.of_eq
        generalize hx : Cal.num (Cal.yOf n + k + (Cal.mOf n - 1 + j % 60) / 12) ((Cal.mOf n - 1 + j % 60) % 12 + 1) (Cal.dOf n) = x at *
        have hle : n ≤ x := by
          rcases Int.lt_or_le x n with h | h
          · exfalso
            rcases (Cal.lt_iff B A).1 h with h | ⟨h, h' | ⟨h', h''⟩⟩ <;> omega
          · exact h
        obtain ⟨p1, p2, p3⟩ := Thi.plain (e := x) (eom := eom) n1 n2 Bb.1 Bb.2 (by omega : Cal.dOf n ≤ 27) b3
        obtain ⟨nn, hnn⟩ : ∃ nn : Nat, 12 * k + j % 60 = (nn : Int) := ⟨(12 * k + j % 60).toNat, by omega⟩
        have hb : Thi.base n x = ((30 * nn : Nat) : Int) := by unfold Thi.base; rw [b1, b2]; omega
        obtain ⟨s1, s2⟩ := Thi.r_scale 30 nn 12 (by decide)
        have key : ∀ N, N = Thi.base n x → Thi.prN N n x = Thi.rN nn 12 ∧ Thi.prD N n x = Thi.rD nn 12 ∧ Thi.prE n x = 0 := by
          intro N hN
          obtain ⟨e1, e2, e3⟩ := Thi.pr_ok N n1 n2 Bb.1 Bb.2 hle
          have hm : (max 0 N).toNat = 30 * nn := by rw [hN, hb]; omega
          rw [e1, e2, e3, hm]; exact ⟨s1, s2, rfl⟩
        exact tyears_ok n k j eom _ _ _ _ _ _ x 0 (Thi.rN nn 12) (Thi.rD nn 12) nn k1 k2 j1 j2 hd n1 n2 (Lib.hid ⟨rfl, rfl, rfl⟩) a1 a2 a3 a4 ht (by omega) (by omega) hq hr (by omega) (by omega) (by omega) (by omega) (Lib.hid hV) rfl d1 (Lib.hid hnn) (by omega) (Lib.hid ⟨rfl, rfl⟩) (Lib.hid (key _ p1)) (Lib.hid (key _ p2)) (Lib.hid (key _ p3)) w hL
  · exact tyears_none n k j eom k1 k2 j1 j2 (dayB_no hn) w hL
end Go.Proofs.YtjcjchapfiokeaaDoor
