/- Months of 30 days, the program's: the third way's turn; a year's part. Conditions: the table of months' lengths lies as the program's text lays it. -/
import Derived.Test.YtjcjchapfiokeaaDoorThiB
import Derived.Test.YtjcjchapfiokeaaDoorRatB
import Derived.BigQuiet
namespace Go.Proofs.YtjcjchapfiokeaaDoor
open Go.RowKit
set_option linter.unusedVariables false
set_option linter.unusedSimpArgs false
set_option maxHeartbeats 2000000 in
theorem isda1_no (k : Nat) (y1 m1 d1 : Int) (l1 : Bool) (y2 m2 d2 : Int) (l2 : Bool) (b x : Int) (pb px : Nat) (w : World) (hT : T8 k w y1 m1 d1 l1 y2 m2 d2 l2) (hb : w.cell? ⟨pb, 0, none⟩ = some (.int .i64 b)) (hx : w.cell? ⟨px, 0, none⟩ = some (.int .i64 x)) (e1 : (b == x) = false) : Calls Tryd.prog 65 #[.pointer (some ⟨k, 0, none⟩), .pointer (some ⟨pb, 0, none⟩), .pointer (some ⟨px, 0, none⟩)] w fun e w' => e = .returned (.tuple #[]) ∧ T8 k w' y1 m1 (en l1 d1) l1 y2 m2 (en l2 d2) l2 ∧ Below k w w' := by
  have HT := Lib.hid hT
  obtain ⟨hk, hfz, c0, c1, c2, c3, c4, c5, c6, c7⟩ := hT.cells
  have hk' := Nat.le_of_lt hk
  clear hT
  have hne : w.heap.size ≠ k := by omega
  go_enter Tryd.func65, Tryd.ntmps65
  go_wp2_with fail
  refine (both_c _ _).mono ?_; rintro e w' ⟨rfl, tt, rfl⟩
  go_wp2_with fail
  refine (both1_end k y1 m1 d1 l1 y2 m2 d2 l2 _ _ (blk_al HT.out) (cell_nu rfl rfl) hne).mono ?_; rintro e w1 ⟨rfl, hT1, hb1⟩
  have HT1 := Lib.hid hT1; obtain ⟨hk1, hfz1, g0, g1, g2, g3, g4, g5, g6, g7⟩ := hT1.cells; clear hT1
  go_wp2_with fail
  refine bodyPost_end (results_none rfl _ _ _) rfl ⟨rfl, ?_, ?_⟩
  · exact HT1.out
  · exact (((Below.refl k w).alloc hk' _).trans hb1)
set_option maxHeartbeats 2000000 in
theorem isda1_od (k : Nat) (y1 m1 d1 : Int) (l1 : Bool) (y2 m2 d2 : Int) (l2 : Bool) (b x : Int) (pb px : Nat) (w : World) (hT : T8 k w y1 m1 d1 l1 y2 m2 d2 l2) (hb : w.cell? ⟨pb, 0, none⟩ = some (.int .i64 b)) (hx : w.cell? ⟨px, 0, none⟩ = some (.int .i64 x)) (e1 : (b == x) = true) (e2 : (m2 == 2) = false) : Calls Tryd.prog 65 #[.pointer (some ⟨k, 0, none⟩), .pointer (some ⟨pb, 0, none⟩), .pointer (some ⟨px, 0, none⟩)] w fun e w' => e = .returned (.tuple #[]) ∧ T8 k w' y1 m1 (en l1 d1) l1 y2 m2 (en l2 d2) l2 ∧ Below k w w' := by
  have HT := Lib.hid hT
  obtain ⟨hk, hfz, c0, c1, c2, c3, c4, c5, c6, c7⟩ := hT.cells
  have hk' := Nat.le_of_lt hk
  clear hT
  have hne : w.heap.size ≠ k := by omega
  go_enter Tryd.func65, Tryd.ntmps65
  go_wp2_with fail
  refine (both_c _ _).mono ?_; rintro e w' ⟨rfl, tt, rfl⟩
  go_wp2_with fail
  refine (both1_end k y1 m1 d1 l1 y2 m2 d2 l2 _ _ (blk_al HT.out) (cell_nu rfl rfl) hne).mono ?_; rintro e w1 ⟨rfl, hT1, hb1⟩
  have HT1 := Lib.hid hT1; obtain ⟨hk1, hfz1, g0, g1, g2, g3, g4, g5, g6, g7⟩ := hT1.cells; clear hT1
  go_wp2_with fail
  refine bodyPost_end (results_none rfl _ _ _) rfl ⟨rfl, ?_, ?_⟩
  · exact HT1.out
  · exact (((Below.refl k w).alloc hk' _).trans hb1)
set_option maxHeartbeats 2000000 in
theorem isda1_ok (k : Nat) (y1 m1 d1 : Int) (l1 : Bool) (y2 m2 d2 : Int) (l2 : Bool) (b x : Int) (pb px : Nat) (w : World) (hT : T8 k w y1 m1 d1 l1 y2 m2 d2 l2) (hb : w.cell? ⟨pb, 0, none⟩ = some (.int .i64 b)) (hx : w.cell? ⟨px, 0, none⟩ = some (.int .i64 x)) (e1 : (b == x) = true) (e2 : (m2 == 2) = true) : Calls Tryd.prog 65 #[.pointer (some ⟨k, 0, none⟩), .pointer (some ⟨pb, 0, none⟩), .pointer (some ⟨px, 0, none⟩)] w fun e w' => e = .returned (.tuple #[]) ∧ T8 k w' y1 m1 (en l1 d1) l1 y2 m2 (d2) l2 ∧ Below k w w' := by
  have HT := Lib.hid hT
  obtain ⟨hk, hfz, c0, c1, c2, c3, c4, c5, c6, c7⟩ := hT.cells
  have hk' := Nat.le_of_lt hk
  clear hT
  have hne : w.heap.size ≠ k := by omega
  go_enter Tryd.func65, Tryd.ntmps65
  go_wp2_with fail
  refine (both_c _ _).mono ?_; rintro e w' ⟨rfl, tt, rfl⟩
  go_wp2_with fail
  refine (both1_end k y1 m1 d1 l1 y2 m2 d2 l2 _ _ (blk_al HT.out) (cell_nu rfl rfl) hne).mono ?_; rintro e w1 ⟨rfl, hT1, hb1⟩
  have HT1 := Lib.hid hT1; obtain ⟨hk1, hfz1, g0, g1, g2, g3, g4, g5, g6, g7⟩ := hT1.cells; clear hT1
  go_wp2_with fail
  refine bodyPost_end (results_none rfl _ _ _) rfl ⟨rfl, ?_, ?_⟩
  · have h := blk_set (i := 6) (u := .int .i64 d2) HT1.out
    unfold T8; simpa using h
  · exact ((((Below.refl k w).alloc hk' _).trans hb1).setCell (Nat.le_refl _) _)
def ix (b x m2 : Int) (l2 : Bool) (d2 : Int) : Int := if ((b == x) && (m2 == 2)) = true then d2 else en l2 d2
theorem isda1_c (k : Nat) (y1 m1 d1 : Int) (l1 : Bool) (y2 m2 d2 : Int) (l2 : Bool) (b x : Int) (pb px : Nat) (w : World) (hT : T8 k w y1 m1 d1 l1 y2 m2 d2 l2) (hb : w.cell? ⟨pb, 0, none⟩ = some (.int .i64 b)) (hx : w.cell? ⟨px, 0, none⟩ = some (.int .i64 x)) : Calls Tryd.prog 65 #[.pointer (some ⟨k, 0, none⟩), .pointer (some ⟨pb, 0, none⟩), .pointer (some ⟨px, 0, none⟩)] w fun e w' => e = .returned (.tuple #[]) ∧ T8 k w' y1 m1 (en l1 d1) l1 y2 m2 (ix b x m2 l2 d2) l2 ∧ Below k w w' := by
  unfold ix
  cases e1 : (b == x)
  · exact isda1_no k y1 m1 d1 l1 y2 m2 d2 l2 b x pb px w hT hb hx e1
  · cases e2 : (m2 == 2)
    · exact isda1_od k y1 m1 d1 l1 y2 m2 d2 l2 b x pb px w hT hb hx e1 e2
    · exact isda1_ok k y1 m1 d1 l1 y2 m2 d2 l2 b x pb px w hT hb hx e1 e2
theorem tof_in (n y m d : Int) (l : Bool) (h1 : 1 ≤ n) (h2 : n ≤ 3652059) (hy : Hid (Cal.yOf n = y ∧ Cal.mOf n = m ∧ Cal.dOf n = d ∧ Mon.lastB n = l)) (w : World) (hL : Laid w) : Calls Tryd.prog 80 #[.int .i64 n] w fun e w' => e = .returned (.tuple #[.agg #[.int .i64 y, .int .i64 m, .int .i64 d, .bool l], .int .i64 0]) ∧ Below w.heap.size w w' := by
  have h := tof_c n w hL
  obtain ⟨e1, e2, e3, e4⟩ := of_in h1 h2
  obtain ⟨f1, f2, f3, f4⟩ := hy.out
  rw [e1, e2, e3, e4, f1, f2, f3, f4] at h; exact h
theorem tof_in0 (n : Int) (h1 : 1 ≤ n) (h2 : n ≤ 3652059) (w : World) (hL : Laid w) : Calls Tryd.prog 80 #[.int .i64 n] w fun e w' => e = .returned (.tuple #[.agg #[.int .i64 (Cal.yOf n), .int .i64 (Cal.mOf n), .int .i64 (Cal.dOf n), .bool (Mon.lastB n)], .int .i64 0]) ∧ Below w.heap.size w w' := by
  have h := tof_c n w hL
  obtain ⟨e1, e2, e3, e4⟩ := of_in h1 h2
  rw [e1, e2, e3, e4] at h; exact h
theorem tof_out (n : Int) (hn : Hid (n < 1 ∨ 3652059 < n)) (w : World) (hL : Laid w) : Calls Tryd.prog 80 #[.int .i64 n] w fun e w' => e = .returned (.tuple #[.agg #[.int .i64 0, .int .i64 0, .int .i64 0, .bool false], .int .i64 3]) ∧ Below w.heap.size w w' := by
  have h := tof_c n w hL
  obtain ⟨e1, e2, e3, e4⟩ := of_out hn.out
  rw [e1, e2, e3, e4, Mon.lastB_out hn.out] at h; exact h
theorem rnew_at (x : Int) (nn : Nat) (hx : x = (nn : Int)) (hnn : nn ≤ 4000000) (w : World) : Calls Tryd.prog 81 #[.int .i64 x, .int .i64 360] w fun e w' => e = .returned (.tuple #[.agg #[.int .i64 (Thi.rN nn 360), .int .i64 (Thi.rD nn 360)], .int .i64 0]) ∧ Below w.heap.size w w' := by
  subst hx; exact rnew_c nn 360 (by omega) (by omega) (by omega) w
set_option maxHeartbeats 2000000 in
theorem part_a (a b : Int) (v : Value) (h : Hid (a < 1 ∨ 3652059 < a)) (w : World) (hL : Laid w) : Calls Tryd.prog 57 #[.int .i64 a, .int .i64 b, v] w fun e w' => e = .returned (.tuple #[.agg #[.int .i64 0, .int .i64 0], .int .i64 3]) ∧ Below w.heap.size w w' := by
  have hB : Below w.heap.size w w := Below.refl _ _
  go_enter Tryd.func57, Tryd.ntmps57
  go_wp2_with fail
  refine (tof_out _ h _ (hL.below (by repeat (first | (with_reducible assumption) | (with_reducible exact Below.refl _ _) | (with_reducible refine Below.drew ?_) | (with_reducible refine below_drewN' ?_ _) | (with_reducible refine below_al ?_) | ((with_reducible refine below_set ?_ ?_); rotate_left; focus (first | (simp; done) | (simp; omega))))))).mono ?_; rintro e w1 ⟨rfl, hb1⟩
  have hz1 := hb1.size; (try simp at hz1); obtain ⟨hc1, hf1⟩ := bcell hb1
  have hB_w_1 := below_step (w := w) hb1 (by repeat (first | (with_reducible assumption) | (with_reducible exact Below.refl _ _) | (with_reducible refine Below.drew ?_) | (with_reducible refine below_drewN' ?_ _) | (with_reducible refine below_al ?_) | ((with_reducible refine below_set ?_ ?_); rotate_left; focus (first | (simp; done) | (simp; omega)))))
  have le_w_w1 : w.heap.size ≤ w1.heap.size := by omega
  try have lt_w_w1 : w.heap.size < w1.heap.size := by omega
  try have lp01_w_w1 : w.heap.size < w1.heap.size + 1 := by omega
  try have lp02_w_w1 : w.heap.size < w1.heap.size + 1 + 1 := by omega
  try have lp03_w_w1 : w.heap.size < w1.heap.size + 1 + 1 + 1 := by omega
  try have lp11_w_w1 : w.heap.size + 1 < w1.heap.size + 1 := by omega
  try have lp12_w_w1 : w.heap.size + 1 < w1.heap.size + 1 + 1 := by omega
  try have lp13_w_w1 : w.heap.size + 1 < w1.heap.size + 1 + 1 + 1 := by omega
  try have lp22_w_w1 : w.heap.size + 1 + 1 < w1.heap.size + 1 + 1 := by omega
  try have lp23_w_w1 : w.heap.size + 1 + 1 < w1.heap.size + 1 + 1 + 1 := by omega
  have s1_w1 : w1.heap.size < w1.heap.size + 1 + 1 := by omega
  have s2_w1 : w1.heap.size < w1.heap.size + 1 + 1 + 1 := by omega
  go_wp2_with fail
  refine (tof_c _ _ (hL.below (by repeat (first | (with_reducible assumption) | (with_reducible exact Below.refl _ _) | (with_reducible refine Below.drew ?_) | (with_reducible refine below_drewN' ?_ _) | (with_reducible refine below_al ?_) | ((with_reducible refine below_set ?_ ?_); rotate_left; focus (first | (simp; done) | (simp; omega))))))).mono ?_; rintro e w2 ⟨rfl, hb2⟩
  have hz2 := hb2.size; (try simp at hz2); obtain ⟨hc2, hf2⟩ := bcell hb2
  have hB_w_2 := below_step (w := w) hb2 (by repeat (first | (with_reducible assumption) | (with_reducible exact Below.refl _ _) | (with_reducible refine Below.drew ?_) | (with_reducible refine below_drewN' ?_ _) | (with_reducible refine below_al ?_) | ((with_reducible refine below_set ?_ ?_); rotate_left; focus (first | (simp; done) | (simp; omega)))))
  have hB_w1_2 := below_step (w := w1) hb2 (by repeat (first | (with_reducible assumption) | (with_reducible exact Below.refl _ _) | (with_reducible refine Below.drew ?_) | (with_reducible refine below_drewN' ?_ _) | (with_reducible refine below_al ?_) | ((with_reducible refine below_set ?_ ?_); rotate_left; focus (first | (simp; done) | (simp; omega)))))
  have le_w_w2 : w.heap.size ≤ w2.heap.size := by omega
  try have lt_w_w2 : w.heap.size < w2.heap.size := by omega
  try have lp01_w_w2 : w.heap.size < w2.heap.size + 1 := by omega
  try have lp02_w_w2 : w.heap.size < w2.heap.size + 1 + 1 := by omega
  try have lp03_w_w2 : w.heap.size < w2.heap.size + 1 + 1 + 1 := by omega
  try have lp11_w_w2 : w.heap.size + 1 < w2.heap.size + 1 := by omega
  try have lp12_w_w2 : w.heap.size + 1 < w2.heap.size + 1 + 1 := by omega
  try have lp13_w_w2 : w.heap.size + 1 < w2.heap.size + 1 + 1 + 1 := by omega
  try have lp22_w_w2 : w.heap.size + 1 + 1 < w2.heap.size + 1 + 1 := by omega
  try have lp23_w_w2 : w.heap.size + 1 + 1 < w2.heap.size + 1 + 1 + 1 := by omega
  have le_w1_w2 : w1.heap.size ≤ w2.heap.size := by omega
  try have lt_w1_w2 : w1.heap.size < w2.heap.size := by omega
  try have lp01_w1_w2 : w1.heap.size < w2.heap.size + 1 := by omega
  try have lp02_w1_w2 : w1.heap.size < w2.heap.size + 1 + 1 := by omega
  try have lp03_w1_w2 : w1.heap.size < w2.heap.size + 1 + 1 + 1 := by omega
  try have lp11_w1_w2 : w1.heap.size + 1 < w2.heap.size + 1 := by omega
  try have lp12_w1_w2 : w1.heap.size + 1 < w2.heap.size + 1 + 1 := by omega
  try have lp13_w1_w2 : w1.heap.size + 1 < w2.heap.size + 1 + 1 + 1 := by omega
  try have lp22_w1_w2 : w1.heap.size + 1 + 1 < w2.heap.size + 1 + 1 := by omega
  try have lp23_w1_w2 : w1.heap.size + 1 + 1 < w2.heap.size + 1 + 1 + 1 := by omega
  try have le1_w1_w2 : w1.heap.size + 1 ≤ w2.heap.size := by omega
  try have lt1_w1_w2 : w1.heap.size + 1 < w2.heap.size := by omega
  try have le2_w1_w2 : w1.heap.size + 1 + 1 ≤ w2.heap.size := by omega
  try have lt2_w1_w2 : w1.heap.size + 1 + 1 < w2.heap.size := by omega
  have s1_w2 : w2.heap.size < w2.heap.size + 1 + 1 := by omega
  have s2_w2 : w2.heap.size < w2.heap.size + 1 + 1 + 1 := by omega
  skip
  go_wp2_with fail
  refine bodyPost_ret (v := .tuple #[.agg #[.int .i64 0, .int .i64 0], .int .i64 3]) (by simp [results, Tryd.results57, go_sem, *]) rfl ⟨rfl, ?_⟩
  repeat (first | assumption | exact Below.refl _ _ | (with_reducible refine Below.drew ?_) | (with_reducible refine below_drewN' ?_ _) | (with_reducible refine below_al ?_) | ((with_reducible refine below_set ?_ ?_); rotate_left; focus (first | (simp; done) | (simp; omega))))
set_option maxHeartbeats 2000000 in
theorem part_b (a b : Int) (v : Value) (h1 : 1 ≤ a) (h2 : a ≤ 3652059) (h : Hid (b < 1 ∨ 3652059 < b)) (w : World) (hL : Laid w) : Calls Tryd.prog 57 #[.int .i64 a, .int .i64 b, v] w fun e w' => e = .returned (.tuple #[.agg #[.int .i64 0, .int .i64 0], .int .i64 3]) ∧ Below w.heap.size w w' := by
  have hB : Below w.heap.size w w := Below.refl _ _
  go_enter Tryd.func57, Tryd.ntmps57
  go_wp2_with fail
  refine (tof_in0 _ h1 h2 _ (hL.below (by repeat (first | (with_reducible assumption) | (with_reducible exact Below.refl _ _) | (with_reducible refine Below.drew ?_) | (with_reducible refine below_drewN' ?_ _) | (with_reducible refine below_al ?_) | ((with_reducible refine below_set ?_ ?_); rotate_left; focus (first | (simp; done) | (simp; omega))))))).mono ?_; rintro e w1 ⟨rfl, hb1⟩
  have hz1 := hb1.size; (try simp at hz1); obtain ⟨hc1, hf1⟩ := bcell hb1
  have hB_w_1 := below_step (w := w) hb1 (by repeat (first | (with_reducible assumption) | (with_reducible exact Below.refl _ _) | (with_reducible refine Below.drew ?_) | (with_reducible refine below_drewN' ?_ _) | (with_reducible refine below_al ?_) | ((with_reducible refine below_set ?_ ?_); rotate_left; focus (first | (simp; done) | (simp; omega)))))
  have le_w_w1 : w.heap.size ≤ w1.heap.size := by omega
  try have lt_w_w1 : w.heap.size < w1.heap.size := by omega
  try have lp01_w_w1 : w.heap.size < w1.heap.size + 1 := by omega
  try have lp02_w_w1 : w.heap.size < w1.heap.size + 1 + 1 := by omega
  try have lp03_w_w1 : w.heap.size < w1.heap.size + 1 + 1 + 1 := by omega
  try have lp11_w_w1 : w.heap.size + 1 < w1.heap.size + 1 := by omega
  try have lp12_w_w1 : w.heap.size + 1 < w1.heap.size + 1 + 1 := by omega
  try have lp13_w_w1 : w.heap.size + 1 < w1.heap.size + 1 + 1 + 1 := by omega
  try have lp22_w_w1 : w.heap.size + 1 + 1 < w1.heap.size + 1 + 1 := by omega
  try have lp23_w_w1 : w.heap.size + 1 + 1 < w1.heap.size + 1 + 1 + 1 := by omega
  have s1_w1 : w1.heap.size < w1.heap.size + 1 + 1 := by omega
  have s2_w1 : w1.heap.size < w1.heap.size + 1 + 1 + 1 := by omega
  go_wp2_with fail
  refine (tof_out _ h _ (hL.below (by repeat (first | (with_reducible assumption) | (with_reducible exact Below.refl _ _) | (with_reducible refine Below.drew ?_) | (with_reducible refine below_drewN' ?_ _) | (with_reducible refine below_al ?_) | ((with_reducible refine below_set ?_ ?_); rotate_left; focus (first | (simp; done) | (simp; omega))))))).mono ?_; rintro e w2 ⟨rfl, hb2⟩
  have hz2 := hb2.size; (try simp at hz2); obtain ⟨hc2, hf2⟩ := bcell hb2
  have hB_w_2 := below_step (w := w) hb2 (by repeat (first | (with_reducible assumption) | (with_reducible exact Below.refl _ _) | (with_reducible refine Below.drew ?_) | (with_reducible refine below_drewN' ?_ _) | (with_reducible refine below_al ?_) | ((with_reducible refine below_set ?_ ?_); rotate_left; focus (first | (simp; done) | (simp; omega)))))
  have hB_w1_2 := below_step (w := w1) hb2 (by repeat (first | (with_reducible assumption) | (with_reducible exact Below.refl _ _) | (with_reducible refine Below.drew ?_) | (with_reducible refine below_drewN' ?_ _) | (with_reducible refine below_al ?_) | ((with_reducible refine below_set ?_ ?_); rotate_left; focus (first | (simp; done) | (simp; omega)))))
  have le_w_w2 : w.heap.size ≤ w2.heap.size := by omega
  try have lt_w_w2 : w.heap.size < w2.heap.size := by omega
  try have lp01_w_w2 : w.heap.size < w2.heap.size + 1 := by omega
  try have lp02_w_w2 : w.heap.size < w2.heap.size + 1 + 1 := by omega
  try have lp03_w_w2 : w.heap.size < w2.heap.size + 1 + 1 + 1 := by omega
  try have lp11_w_w2 : w.heap.size + 1 < w2.heap.size + 1 := by omega
  try have lp12_w_w2 : w.heap.size + 1 < w2.heap.size + 1 + 1 := by omega
  try have lp13_w_w2 : w.heap.size + 1 < w2.heap.size + 1 + 1 + 1 := by omega
  try have lp22_w_w2 : w.heap.size + 1 + 1 < w2.heap.size + 1 + 1 := by omega
  try have lp23_w_w2 : w.heap.size + 1 + 1 < w2.heap.size + 1 + 1 + 1 := by omega
  have le_w1_w2 : w1.heap.size ≤ w2.heap.size := by omega
  try have lt_w1_w2 : w1.heap.size < w2.heap.size := by omega
  try have lp01_w1_w2 : w1.heap.size < w2.heap.size + 1 := by omega
  try have lp02_w1_w2 : w1.heap.size < w2.heap.size + 1 + 1 := by omega
  try have lp03_w1_w2 : w1.heap.size < w2.heap.size + 1 + 1 + 1 := by omega
  try have lp11_w1_w2 : w1.heap.size + 1 < w2.heap.size + 1 := by omega
  try have lp12_w1_w2 : w1.heap.size + 1 < w2.heap.size + 1 + 1 := by omega
  try have lp13_w1_w2 : w1.heap.size + 1 < w2.heap.size + 1 + 1 + 1 := by omega
  try have lp22_w1_w2 : w1.heap.size + 1 + 1 < w2.heap.size + 1 + 1 := by omega
  try have lp23_w1_w2 : w1.heap.size + 1 + 1 < w2.heap.size + 1 + 1 + 1 := by omega
  try have le1_w1_w2 : w1.heap.size + 1 ≤ w2.heap.size := by omega
  try have lt1_w1_w2 : w1.heap.size + 1 < w2.heap.size := by omega
  try have le2_w1_w2 : w1.heap.size + 1 + 1 ≤ w2.heap.size := by omega
  try have lt2_w1_w2 : w1.heap.size + 1 + 1 < w2.heap.size := by omega
  have s1_w2 : w2.heap.size < w2.heap.size + 1 + 1 := by omega
  have s2_w2 : w2.heap.size < w2.heap.size + 1 + 1 + 1 := by omega
  skip
  go_wp2_with fail
  refine bodyPost_ret (v := .tuple #[.agg #[.int .i64 0, .int .i64 0], .int .i64 3]) (by simp [results, Tryd.results57, go_sem, *]) rfl ⟨rfl, ?_⟩
  repeat (first | assumption | exact Below.refl _ _ | (with_reducible refine Below.drew ?_) | (with_reducible refine below_drewN' ?_ _) | (with_reducible refine below_al ?_) | ((with_reducible refine below_set ?_ ?_); rotate_left; focus (first | (simp; done) | (simp; omega))))
set_option maxHeartbeats 2000000 in
theorem part_o (a b : Int) (v : Value) (h1 : 1 ≤ a) (h2 : a ≤ 3652059) (h3 : 1 ≤ b) (h4 : b ≤ 3652059) (h : b < a) (w : World) (hL : Laid w) : Calls Tryd.prog 57 #[.int .i64 a, .int .i64 b, v] w fun e w' => e = .returned (.tuple #[.agg #[.int .i64 0, .int .i64 0], .int .i64 4]) ∧ Below w.heap.size w w' := by
  have hB : Below w.heap.size w w := Below.refl _ _
  go_enter Tryd.func57, Tryd.ntmps57
  go_wp2_with fail
  refine (tof_in0 _ h1 h2 _ (hL.below (by repeat (first | (with_reducible assumption) | (with_reducible exact Below.refl _ _) | (with_reducible refine Below.drew ?_) | (with_reducible refine below_drewN' ?_ _) | (with_reducible refine below_al ?_) | ((with_reducible refine below_set ?_ ?_); rotate_left; focus (first | (simp; done) | (simp; omega))))))).mono ?_; rintro e w1 ⟨rfl, hb1⟩
  have hz1 := hb1.size; (try simp at hz1); obtain ⟨hc1, hf1⟩ := bcell hb1
  have hB_w_1 := below_step (w := w) hb1 (by repeat (first | (with_reducible assumption) | (with_reducible exact Below.refl _ _) | (with_reducible refine Below.drew ?_) | (with_reducible refine below_drewN' ?_ _) | (with_reducible refine below_al ?_) | ((with_reducible refine below_set ?_ ?_); rotate_left; focus (first | (simp; done) | (simp; omega)))))
  have le_w_w1 : w.heap.size ≤ w1.heap.size := by omega
  try have lt_w_w1 : w.heap.size < w1.heap.size := by omega
  try have lp01_w_w1 : w.heap.size < w1.heap.size + 1 := by omega
  try have lp02_w_w1 : w.heap.size < w1.heap.size + 1 + 1 := by omega
  try have lp03_w_w1 : w.heap.size < w1.heap.size + 1 + 1 + 1 := by omega
  try have lp11_w_w1 : w.heap.size + 1 < w1.heap.size + 1 := by omega
  try have lp12_w_w1 : w.heap.size + 1 < w1.heap.size + 1 + 1 := by omega
  try have lp13_w_w1 : w.heap.size + 1 < w1.heap.size + 1 + 1 + 1 := by omega
  try have lp22_w_w1 : w.heap.size + 1 + 1 < w1.heap.size + 1 + 1 := by omega
  try have lp23_w_w1 : w.heap.size + 1 + 1 < w1.heap.size + 1 + 1 + 1 := by omega
  have s1_w1 : w1.heap.size < w1.heap.size + 1 + 1 := by omega
  have s2_w1 : w1.heap.size < w1.heap.size + 1 + 1 + 1 := by omega
  go_wp2_with fail
  refine (tof_in0 _ h3 h4 _ (hL.below (by repeat (first | (with_reducible assumption) | (with_reducible exact Below.refl _ _) | (with_reducible refine Below.drew ?_) | (with_reducible refine below_drewN' ?_ _) | (with_reducible refine below_al ?_) | ((with_reducible refine below_set ?_ ?_); rotate_left; focus (first | (simp; done) | (simp; omega))))))).mono ?_; rintro e w2 ⟨rfl, hb2⟩
  have hz2 := hb2.size; (try simp at hz2); obtain ⟨hc2, hf2⟩ := bcell hb2
  have hB_w_2 := below_step (w := w) hb2 (by repeat (first | (with_reducible assumption) | (with_reducible exact Below.refl _ _) | (with_reducible refine Below.drew ?_) | (with_reducible refine below_drewN' ?_ _) | (with_reducible refine below_al ?_) | ((with_reducible refine below_set ?_ ?_); rotate_left; focus (first | (simp; done) | (simp; omega)))))
  have hB_w1_2 := below_step (w := w1) hb2 (by repeat (first | (with_reducible assumption) | (with_reducible exact Below.refl _ _) | (with_reducible refine Below.drew ?_) | (with_reducible refine below_drewN' ?_ _) | (with_reducible refine below_al ?_) | ((with_reducible refine below_set ?_ ?_); rotate_left; focus (first | (simp; done) | (simp; omega)))))
  have le_w_w2 : w.heap.size ≤ w2.heap.size := by omega
  try have lt_w_w2 : w.heap.size < w2.heap.size := by omega
  try have lp01_w_w2 : w.heap.size < w2.heap.size + 1 := by omega
  try have lp02_w_w2 : w.heap.size < w2.heap.size + 1 + 1 := by omega
  try have lp03_w_w2 : w.heap.size < w2.heap.size + 1 + 1 + 1 := by omega
  try have lp11_w_w2 : w.heap.size + 1 < w2.heap.size + 1 := by omega
  try have lp12_w_w2 : w.heap.size + 1 < w2.heap.size + 1 + 1 := by omega
  try have lp13_w_w2 : w.heap.size + 1 < w2.heap.size + 1 + 1 + 1 := by omega
  try have lp22_w_w2 : w.heap.size + 1 + 1 < w2.heap.size + 1 + 1 := by omega
  try have lp23_w_w2 : w.heap.size + 1 + 1 < w2.heap.size + 1 + 1 + 1 := by omega
  have le_w1_w2 : w1.heap.size ≤ w2.heap.size := by omega
  try have lt_w1_w2 : w1.heap.size < w2.heap.size := by omega
  try have lp01_w1_w2 : w1.heap.size < w2.heap.size + 1 := by omega
  try have lp02_w1_w2 : w1.heap.size < w2.heap.size + 1 + 1 := by omega
  try have lp03_w1_w2 : w1.heap.size < w2.heap.size + 1 + 1 + 1 := by omega
  try have lp11_w1_w2 : w1.heap.size + 1 < w2.heap.size + 1 := by omega
  try have lp12_w1_w2 : w1.heap.size + 1 < w2.heap.size + 1 + 1 := by omega
  try have lp13_w1_w2 : w1.heap.size + 1 < w2.heap.size + 1 + 1 + 1 := by omega
  try have lp22_w1_w2 : w1.heap.size + 1 + 1 < w2.heap.size + 1 + 1 := by omega
  try have lp23_w1_w2 : w1.heap.size + 1 + 1 < w2.heap.size + 1 + 1 + 1 := by omega
  try have le1_w1_w2 : w1.heap.size + 1 ≤ w2.heap.size := by omega
  try have lt1_w1_w2 : w1.heap.size + 1 < w2.heap.size := by omega
  try have le2_w1_w2 : w1.heap.size + 1 + 1 ≤ w2.heap.size := by omega
  try have lt2_w1_w2 : w1.heap.size + 1 + 1 < w2.heap.size := by omega
  have s1_w2 : w2.heap.size < w2.heap.size + 1 + 1 := by omega
  have s2_w2 : w2.heap.size < w2.heap.size + 1 + 1 + 1 := by omega
  skip
  go_wp2_with fail
  refine bodyPost_ret (v := .tuple #[.agg #[.int .i64 0, .int .i64 0], .int .i64 4]) (by simp [results, Tryd.results57, go_sem, *]) rfl ⟨rfl, ?_⟩
  repeat (first | assumption | exact Below.refl _ _ | (with_reducible refine Below.drew ?_) | (with_reducible refine below_drewN' ?_ _) | (with_reducible refine below_al ?_) | ((with_reducible refine below_set ?_ ?_); rotate_left; focus (first | (simp; done) | (simp; omega))))
set_option maxHeartbeats 8000000 in
theorem part_us (a b y1 m1 d1 y2 m2 d2 D1 D2 : Int) (l1 l2 : Bool) (nn : Nat) (eom f1 f2 : Bool) (HF : Hid ((l1 && (m1 == 2)) = f1 ∧ (l2 && (m2 == 2)) = f2)) (be : Nat) (h1 : 1 ≤ a) (h2 : a ≤ 3652059) (h3 : 1 ≤ b) (h4 : b ≤ 3652059) (hab : ¬ b < a) (HA : Hid (Cal.yOf a = y1 ∧ Cal.mOf a = m1 ∧ Cal.dOf a = d1 ∧ Mon.lastB a = l1)) (HB' : Hid (Cal.yOf b = y2 ∧ Cal.mOf b = m2 ∧ Cal.dOf b = d2 ∧ Mon.lastB b = l2))
    (hy : 1 ≤ y1 ∧ y1 ≤ 9999 ∧ 1 ≤ y2 ∧ y2 ≤ 9999 ∧ 1 ≤ m1 ∧ m1 ≤ 12 ∧ 1 ≤ m2 ∧ m2 ≤ 12 ∧ 0 ≤ D1 ∧ D1 ≤ 100 ∧ 0 ≤ D2 ∧ D2 ≤ 100) (HD : Hid (min (v1 eom f1 d1) 30 = D1 ∧ x2 eom f1 f2 d1 d2 = D2)) (N : Int) (HN : Hid (360 * (y2 - y1) + 30 * (m2 - m1) + D2 - D1 = N)) (HM : Hid (max 0 N = (nn : Int))) (hnn : nn ≤ 4000000) (w : World) (he : w.cell? ⟨be, 0, none⟩ = some (.bool eom)) (hL : Laid w) :
    Calls Tryd.prog 57 #[.int .i64 a, .int .i64 b, .func (.func 58) #[] #[.pointer (some ⟨be, 0, none⟩)]] w fun e w' => e = .returned (.tuple #[.agg #[.int .i64 (Thi.rN nn 360), .int .i64 (Thi.rD nn 360)], .int .i64 0]) ∧ Below w.heap.size w w' := by
  obtain ⟨y1a, y1b, y2a, y2b, m1a, m1b, m2a, m2b, D1a, D1b, D2a, D2b⟩ := hy
  have q1 : IntKind.i64.wrap (y2 - y1) = y2 - y1 := IntWalk.i64_in _ (by omega)
  have q2 : IntKind.i64.wrap (360 * (y2 - y1)) = 360 * (y2 - y1) := IntWalk.i64_in _ (by omega)
  have q3 : IntKind.i64.wrap (m2 - m1) = m2 - m1 := IntWalk.i64_in _ (by omega)
  have q4 : IntKind.i64.wrap (30 * (m2 - m1)) = 30 * (m2 - m1) := IntWalk.i64_in _ (by omega)
  have q5 : IntKind.i64.wrap (360 * (y2 - y1) + 30 * (m2 - m1)) = 360 * (y2 - y1) + 30 * (m2 - m1) := IntWalk.i64_in _ (by omega)
  have q6 : IntKind.i64.wrap (360 * (y2 - y1) + 30 * (m2 - m1) + D2) = 360 * (y2 - y1) + 30 * (m2 - m1) + D2 := IntWalk.i64_in _ (by omega)
  have q7 : IntKind.i64.wrap (360 * (y2 - y1) + 30 * (m2 - m1) + D2 - D1) = 360 * (y2 - y1) + 30 * (m2 - m1) + D2 - D1 := IntWalk.i64_in _ (by omega)
  have hB : Below w.heap.size w w := Below.refl _ _
  have hbe : be < w.heap.size := World.block_lt_of_cell? _ _ he
  have hbe' : be ≤ w.heap.size := by omega
  go_enter Tryd.func57, Tryd.ntmps57
  go_wp2_with fail
  refine (tof_in _ _ _ _ _ h1 h2 HA _ (hL.below (by repeat (first | (with_reducible assumption) | (with_reducible exact Below.refl _ _) | (with_reducible refine Below.drew ?_) | (with_reducible refine below_drewN' ?_ _) | (with_reducible refine below_al ?_) | ((with_reducible refine below_set ?_ ?_); rotate_left; focus (first | (simp; done) | (simp; omega))))))).mono ?_; rintro e w1 ⟨rfl, hb1⟩
  have hz1 := hb1.size; (try simp at hz1); obtain ⟨hc1, hf1⟩ := bcell hb1
  have hB_w_1 := below_step (w := w) hb1 (by repeat (first | (with_reducible assumption) | (with_reducible exact Below.refl _ _) | (with_reducible refine Below.drew ?_) | (with_reducible refine below_drewN' ?_ _) | (with_reducible refine below_al ?_) | ((with_reducible refine below_set ?_ ?_); rotate_left; focus (first | (simp; done) | (simp; omega)))))
  have le_w_w1 : w.heap.size ≤ w1.heap.size := by omega
  try have lt_w_w1 : w.heap.size < w1.heap.size := by omega
  try have lp01_w_w1 : w.heap.size < w1.heap.size + 1 := by omega
  try have lp02_w_w1 : w.heap.size < w1.heap.size + 1 + 1 := by omega
  try have lp03_w_w1 : w.heap.size < w1.heap.size + 1 + 1 + 1 := by omega
  try have lp11_w_w1 : w.heap.size + 1 < w1.heap.size + 1 := by omega
  try have lp12_w_w1 : w.heap.size + 1 < w1.heap.size + 1 + 1 := by omega
  try have lp13_w_w1 : w.heap.size + 1 < w1.heap.size + 1 + 1 + 1 := by omega
  try have lp22_w_w1 : w.heap.size + 1 + 1 < w1.heap.size + 1 + 1 := by omega
  try have lp23_w_w1 : w.heap.size + 1 + 1 < w1.heap.size + 1 + 1 + 1 := by omega
  have s1_w1 : w1.heap.size < w1.heap.size + 1 + 1 := by omega
  have s2_w1 : w1.heap.size < w1.heap.size + 1 + 1 + 1 := by omega
  have lb_be_w1 : be < w1.heap.size := by omega
  have lc_be_w1 : be ≤ w1.heap.size := by omega
  go_wp2_with fail
  refine (tof_in _ _ _ _ _ h3 h4 HB' _ (hL.below (by repeat (first | (with_reducible assumption) | (with_reducible exact Below.refl _ _) | (with_reducible refine Below.drew ?_) | (with_reducible refine below_drewN' ?_ _) | (with_reducible refine below_al ?_) | ((with_reducible refine below_set ?_ ?_); rotate_left; focus (first | (simp; done) | (simp; omega))))))).mono ?_; rintro e w2 ⟨rfl, hb2⟩
  have hz2 := hb2.size; (try simp at hz2); obtain ⟨hc2, hf2⟩ := bcell hb2
  have hB_w_2 := below_step (w := w) hb2 (by repeat (first | (with_reducible assumption) | (with_reducible exact Below.refl _ _) | (with_reducible refine Below.drew ?_) | (with_reducible refine below_drewN' ?_ _) | (with_reducible refine below_al ?_) | ((with_reducible refine below_set ?_ ?_); rotate_left; focus (first | (simp; done) | (simp; omega)))))
  have hB_w1_2 := below_step (w := w1) hb2 (by repeat (first | (with_reducible assumption) | (with_reducible exact Below.refl _ _) | (with_reducible refine Below.drew ?_) | (with_reducible refine below_drewN' ?_ _) | (with_reducible refine below_al ?_) | ((with_reducible refine below_set ?_ ?_); rotate_left; focus (first | (simp; done) | (simp; omega)))))
  have le_w_w2 : w.heap.size ≤ w2.heap.size := by omega
  try have lt_w_w2 : w.heap.size < w2.heap.size := by omega
  try have lp01_w_w2 : w.heap.size < w2.heap.size + 1 := by omega
  try have lp02_w_w2 : w.heap.size < w2.heap.size + 1 + 1 := by omega
  try have lp03_w_w2 : w.heap.size < w2.heap.size + 1 + 1 + 1 := by omega
  try have lp11_w_w2 : w.heap.size + 1 < w2.heap.size + 1 := by omega
  try have lp12_w_w2 : w.heap.size + 1 < w2.heap.size + 1 + 1 := by omega
  try have lp13_w_w2 : w.heap.size + 1 < w2.heap.size + 1 + 1 + 1 := by omega
  try have lp22_w_w2 : w.heap.size + 1 + 1 < w2.heap.size + 1 + 1 := by omega
  try have lp23_w_w2 : w.heap.size + 1 + 1 < w2.heap.size + 1 + 1 + 1 := by omega
  have le_w1_w2 : w1.heap.size ≤ w2.heap.size := by omega
  try have lt_w1_w2 : w1.heap.size < w2.heap.size := by omega
  try have lp01_w1_w2 : w1.heap.size < w2.heap.size + 1 := by omega
  try have lp02_w1_w2 : w1.heap.size < w2.heap.size + 1 + 1 := by omega
  try have lp03_w1_w2 : w1.heap.size < w2.heap.size + 1 + 1 + 1 := by omega
  try have lp11_w1_w2 : w1.heap.size + 1 < w2.heap.size + 1 := by omega
  try have lp12_w1_w2 : w1.heap.size + 1 < w2.heap.size + 1 + 1 := by omega
  try have lp13_w1_w2 : w1.heap.size + 1 < w2.heap.size + 1 + 1 + 1 := by omega
  try have lp22_w1_w2 : w1.heap.size + 1 + 1 < w2.heap.size + 1 + 1 := by omega
  try have lp23_w1_w2 : w1.heap.size + 1 + 1 < w2.heap.size + 1 + 1 + 1 := by omega
  try have le1_w1_w2 : w1.heap.size + 1 ≤ w2.heap.size := by omega
  try have lt1_w1_w2 : w1.heap.size + 1 < w2.heap.size := by omega
  try have le2_w1_w2 : w1.heap.size + 1 + 1 ≤ w2.heap.size := by omega
  try have lt2_w1_w2 : w1.heap.size + 1 + 1 < w2.heap.size := by omega
  have s1_w2 : w2.heap.size < w2.heap.size + 1 + 1 := by omega
  have s2_w2 : w2.heap.size < w2.heap.size + 1 + 1 + 1 := by omega
  have lb_be_w2 : be < w2.heap.size := by omega
  have lc_be_w2 : be ≤ w2.heap.size := by omega
  go_wp2_with fail
  refine (us1_c _ y1 m1 d1 l1 y2 m2 d2 l2 eom f1 f2 HF.out.1 HF.out.2 be _ (blk_nu (by simp)) (cell_al (cell_al (below_some hB_w_2 _ _ _ he)))).mono ?_; rintro e w3 ⟨rfl, hT, hb3⟩
  rw [HD.out.1, HD.out.2] at hT
  have HT := Lib.hid hT; obtain ⟨hk, hfz, c0, c1, c2, c3, c4, c5, c6, c7⟩ := hT.cells; clear hT
  have z3 := hb3.size; simp at z3
  have hB3 : Below w.heap.size w w3 := (below_al (below_al hB_w_2)).trans (hb3.mono (by omega))
  have lt3 : w.heap.size < w2.heap.size + 1 := by omega
  have r0 := (hb3.cell (p := ⟨w.heap.size, 0, none⟩) lt3).trans (cell_al (cell_al (below_some hB_w1_2 _ _ _ (below_some hb1 _ _ _ (cell_nu (k := w.heap.size) (i := 0) rfl rfl)))))
  have r1 := (hb3.cell (p := ⟨w.heap.size, 1, none⟩) lt3).trans (cell_al (cell_al (below_some hB_w1_2 _ _ _ (below_some hb1 _ _ _ (cell_nu (k := w.heap.size) (i := 1) rfl rfl)))))
  have f0 : w3.frozen? ⟨w.heap.size, 0, none⟩ = false := (hb3.frozen (p := ⟨w.heap.size, 0, none⟩) lt3).trans ((below_al (below_al hB_w1_2)).frozen (p := ⟨w.heap.size, 0, none⟩) lt_w_w1 |>.trans ((hb1.frozen (p := ⟨w.heap.size, 0, none⟩) (by simp)).trans (blk_free (blk_nu rfl))))
  have f1 : w3.frozen? ⟨w.heap.size, 1, none⟩ = false := (hb3.frozen (p := ⟨w.heap.size, 1, none⟩) lt3).trans ((below_al (below_al hB_w1_2)).frozen (p := ⟨w.heap.size, 1, none⟩) lt_w_w1 |>.trans ((hb1.frozen (p := ⟨w.heap.size, 1, none⟩) (by simp)).trans (blk_free (blk_nu rfl))))
  have lw3 : w.heap.size < w3.heap.size := by omega
  clear hb3 hc1 hc2 hf1 hf2 hb1 hb2
  go_wp2_with fail
  go_quiet (fail)
  rw [HN.out]
  go_wp2_with fail
  all_goals
    refine (rnew_at _ nn (by have := HM.out; omega) hnn _).mono ?_; rintro e w4 ⟨rfl, hb4⟩
    have z4 := hb4.size; simp at z4
    obtain ⟨hc4, hf4⟩ := bcell hb4
    have hB4 : Below w.heap.size w w4 := below_step (w := w) hb4 (by repeat (first | (with_reducible assumption) | (with_reducible refine below_drewN' ?_ _)))
    have r40 : w4.cell? ⟨w.heap.size, 0, none⟩ = some (.int .i64 0) := (hb4.cell (p := ⟨w.heap.size, 0, none⟩) (by simpa using lw3)).trans (by simpa using r0)
    have r41 : w4.cell? ⟨w.heap.size, 1, none⟩ = some (.int .i64 0) := (hb4.cell (p := ⟨w.heap.size, 1, none⟩) (by simpa using lw3)).trans (by simpa using r1)
    have f40 : w4.frozen? ⟨w.heap.size, 0, none⟩ = false := (hb4.frozen (p := ⟨w.heap.size, 0, none⟩) (by simpa using lw3)).trans (by simpa using f0)
    have f41 : w4.frozen? ⟨w.heap.size, 1, none⟩ = false := (hb4.frozen (p := ⟨w.heap.size, 1, none⟩) (by simpa using lw3)).trans (by simpa using f1)
    go_wp2_with fail
    refine bodyPost_ret (v := .tuple #[.agg #[.int .i64 (Thi.rN nn 360), .int .i64 (Thi.rD nn 360)], .int .i64 0]) (by simp [results, Tryd.results57, go_sem, r40, r41]) rfl ⟨rfl, ?_⟩
    exact below_set (below_set hB4 (Nat.le_refl _)) (Nat.le_refl _)
set_option maxHeartbeats 8000000 in
theorem part_e (a b y1 m1 d1 y2 m2 d2 D1 D2 : Int) (l1 l2 : Bool) (nn : Nat) (bx : Nat) (h1 : 1 ≤ a) (h2 : a ≤ 3652059) (h3 : 1 ≤ b) (h4 : b ≤ 3652059) (hab : ¬ b < a) (HA : Hid (Cal.yOf a = y1 ∧ Cal.mOf a = m1 ∧ Cal.dOf a = d1 ∧ Mon.lastB a = l1)) (HB' : Hid (Cal.yOf b = y2 ∧ Cal.mOf b = m2 ∧ Cal.dOf b = d2 ∧ Mon.lastB b = l2))
    (hy : 1 ≤ y1 ∧ y1 ≤ 9999 ∧ 1 ≤ y2 ∧ y2 ≤ 9999 ∧ 1 ≤ m1 ∧ m1 ≤ 12 ∧ 1 ≤ m2 ∧ m2 ≤ 12 ∧ 0 ≤ D1 ∧ D1 ≤ 100 ∧ 0 ≤ D2 ∧ D2 ≤ 100) (HD : Hid (min d1 30 = D1 ∧ min d2 30 = D2)) (N : Int) (HN : Hid (360 * (y2 - y1) + 30 * (m2 - m1) + D2 - D1 = N)) (HM : Hid (max 0 N = (nn : Int))) (hnn : nn ≤ 4000000) (w : World) (he : w.cell? ⟨bx, 0, none⟩ = some (.func (.func 60) #[] #[])) (hL : Laid w) :
    Calls Tryd.prog 57 #[.int .i64 a, .int .i64 b, .func (.func 82) #[] #[.pointer (some ⟨bx, 0, none⟩)]] w fun e w' => e = .returned (.tuple #[.agg #[.int .i64 (Thi.rN nn 360), .int .i64 (Thi.rD nn 360)], .int .i64 0]) ∧ Below w.heap.size w w' := by
  obtain ⟨y1a, y1b, y2a, y2b, m1a, m1b, m2a, m2b, D1a, D1b, D2a, D2b⟩ := hy
  have q1 : IntKind.i64.wrap (y2 - y1) = y2 - y1 := IntWalk.i64_in _ (by omega)
  have q2 : IntKind.i64.wrap (360 * (y2 - y1)) = 360 * (y2 - y1) := IntWalk.i64_in _ (by omega)
  have q3 : IntKind.i64.wrap (m2 - m1) = m2 - m1 := IntWalk.i64_in _ (by omega)
  have q4 : IntKind.i64.wrap (30 * (m2 - m1)) = 30 * (m2 - m1) := IntWalk.i64_in _ (by omega)
  have q5 : IntKind.i64.wrap (360 * (y2 - y1) + 30 * (m2 - m1)) = 360 * (y2 - y1) + 30 * (m2 - m1) := IntWalk.i64_in _ (by omega)
  have q6 : IntKind.i64.wrap (360 * (y2 - y1) + 30 * (m2 - m1) + D2) = 360 * (y2 - y1) + 30 * (m2 - m1) + D2 := IntWalk.i64_in _ (by omega)
  have q7 : IntKind.i64.wrap (360 * (y2 - y1) + 30 * (m2 - m1) + D2 - D1) = 360 * (y2 - y1) + 30 * (m2 - m1) + D2 - D1 := IntWalk.i64_in _ (by omega)
  have hB : Below w.heap.size w w := Below.refl _ _
  have hbe : bx < w.heap.size := World.block_lt_of_cell? _ _ he
  have hbe' : bx ≤ w.heap.size := by omega
  go_enter Tryd.func57, Tryd.ntmps57
  go_wp2_with fail
  refine (tof_in _ _ _ _ _ h1 h2 HA _ (hL.below (by repeat (first | (with_reducible assumption) | (with_reducible exact Below.refl _ _) | (with_reducible refine Below.drew ?_) | (with_reducible refine below_drewN' ?_ _) | (with_reducible refine below_al ?_) | ((with_reducible refine below_set ?_ ?_); rotate_left; focus (first | (simp; done) | (simp; omega))))))).mono ?_; rintro e w1 ⟨rfl, hb1⟩
  have hz1 := hb1.size; (try simp at hz1); obtain ⟨hc1, hf1⟩ := bcell hb1
  have hB_w_1 := below_step (w := w) hb1 (by repeat (first | (with_reducible assumption) | (with_reducible exact Below.refl _ _) | (with_reducible refine Below.drew ?_) | (with_reducible refine below_drewN' ?_ _) | (with_reducible refine below_al ?_) | ((with_reducible refine below_set ?_ ?_); rotate_left; focus (first | (simp; done) | (simp; omega)))))
  have le_w_w1 : w.heap.size ≤ w1.heap.size := by omega
  try have lt_w_w1 : w.heap.size < w1.heap.size := by omega
  try have lp01_w_w1 : w.heap.size < w1.heap.size + 1 := by omega
  try have lp02_w_w1 : w.heap.size < w1.heap.size + 1 + 1 := by omega
  try have lp03_w_w1 : w.heap.size < w1.heap.size + 1 + 1 + 1 := by omega
  try have lp11_w_w1 : w.heap.size + 1 < w1.heap.size + 1 := by omega
  try have lp12_w_w1 : w.heap.size + 1 < w1.heap.size + 1 + 1 := by omega
  try have lp13_w_w1 : w.heap.size + 1 < w1.heap.size + 1 + 1 + 1 := by omega
  try have lp22_w_w1 : w.heap.size + 1 + 1 < w1.heap.size + 1 + 1 := by omega
  try have lp23_w_w1 : w.heap.size + 1 + 1 < w1.heap.size + 1 + 1 + 1 := by omega
  have s1_w1 : w1.heap.size < w1.heap.size + 1 + 1 := by omega
  have s2_w1 : w1.heap.size < w1.heap.size + 1 + 1 + 1 := by omega
  have lb_bx_w1 : bx < w1.heap.size := by omega
  have lc_bx_w1 : bx ≤ w1.heap.size := by omega
  go_wp2_with fail
  refine (tof_in _ _ _ _ _ h3 h4 HB' _ (hL.below (by repeat (first | (with_reducible assumption) | (with_reducible exact Below.refl _ _) | (with_reducible refine Below.drew ?_) | (with_reducible refine below_drewN' ?_ _) | (with_reducible refine below_al ?_) | ((with_reducible refine below_set ?_ ?_); rotate_left; focus (first | (simp; done) | (simp; omega))))))).mono ?_; rintro e w2 ⟨rfl, hb2⟩
  have hz2 := hb2.size; (try simp at hz2); obtain ⟨hc2, hf2⟩ := bcell hb2
  have hB_w_2 := below_step (w := w) hb2 (by repeat (first | (with_reducible assumption) | (with_reducible exact Below.refl _ _) | (with_reducible refine Below.drew ?_) | (with_reducible refine below_drewN' ?_ _) | (with_reducible refine below_al ?_) | ((with_reducible refine below_set ?_ ?_); rotate_left; focus (first | (simp; done) | (simp; omega)))))
  have hB_w1_2 := below_step (w := w1) hb2 (by repeat (first | (with_reducible assumption) | (with_reducible exact Below.refl _ _) | (with_reducible refine Below.drew ?_) | (with_reducible refine below_drewN' ?_ _) | (with_reducible refine below_al ?_) | ((with_reducible refine below_set ?_ ?_); rotate_left; focus (first | (simp; done) | (simp; omega)))))
  have le_w_w2 : w.heap.size ≤ w2.heap.size := by omega
  try have lt_w_w2 : w.heap.size < w2.heap.size := by omega
  try have lp01_w_w2 : w.heap.size < w2.heap.size + 1 := by omega
  try have lp02_w_w2 : w.heap.size < w2.heap.size + 1 + 1 := by omega
  try have lp03_w_w2 : w.heap.size < w2.heap.size + 1 + 1 + 1 := by omega
  try have lp11_w_w2 : w.heap.size + 1 < w2.heap.size + 1 := by omega
  try have lp12_w_w2 : w.heap.size + 1 < w2.heap.size + 1 + 1 := by omega
  try have lp13_w_w2 : w.heap.size + 1 < w2.heap.size + 1 + 1 + 1 := by omega
  try have lp22_w_w2 : w.heap.size + 1 + 1 < w2.heap.size + 1 + 1 := by omega
  try have lp23_w_w2 : w.heap.size + 1 + 1 < w2.heap.size + 1 + 1 + 1 := by omega
  have le_w1_w2 : w1.heap.size ≤ w2.heap.size := by omega
  try have lt_w1_w2 : w1.heap.size < w2.heap.size := by omega
  try have lp01_w1_w2 : w1.heap.size < w2.heap.size + 1 := by omega
  try have lp02_w1_w2 : w1.heap.size < w2.heap.size + 1 + 1 := by omega
  try have lp03_w1_w2 : w1.heap.size < w2.heap.size + 1 + 1 + 1 := by omega
  try have lp11_w1_w2 : w1.heap.size + 1 < w2.heap.size + 1 := by omega
  try have lp12_w1_w2 : w1.heap.size + 1 < w2.heap.size + 1 + 1 := by omega
  try have lp13_w1_w2 : w1.heap.size + 1 < w2.heap.size + 1 + 1 + 1 := by omega
  try have lp22_w1_w2 : w1.heap.size + 1 + 1 < w2.heap.size + 1 + 1 := by omega
  try have lp23_w1_w2 : w1.heap.size + 1 + 1 < w2.heap.size + 1 + 1 + 1 := by omega
  try have le1_w1_w2 : w1.heap.size + 1 ≤ w2.heap.size := by omega
  try have lt1_w1_w2 : w1.heap.size + 1 < w2.heap.size := by omega
  try have le2_w1_w2 : w1.heap.size + 1 + 1 ≤ w2.heap.size := by omega
  try have lt2_w1_w2 : w1.heap.size + 1 + 1 < w2.heap.size := by omega
  have s1_w2 : w2.heap.size < w2.heap.size + 1 + 1 := by omega
  have s2_w2 : w2.heap.size < w2.heap.size + 1 + 1 + 1 := by omega
  have lb_bx_w2 : bx < w2.heap.size := by omega
  have lc_bx_w2 : bx ≤ w2.heap.size := by omega
  go_wp2_with fail
  refine (both1_cut _ y1 m1 d1 l1 y2 m2 d2 l2 bx _ (blk_nu (by simp)) (cell_al (cell_al (below_some hB_w_2 _ _ _ he))) (by omega)).mono ?_; rintro e w3 ⟨rfl, hT, hb3⟩
  rw [HD.out.1, HD.out.2] at hT
  have HT := Lib.hid hT; obtain ⟨hk, hfz, c0, c1, c2, c3, c4, c5, c6, c7⟩ := hT.cells; clear hT
  have z3 := hb3.size; simp at z3
  have hB3 : Below w.heap.size w w3 := (below_al (below_al hB_w_2)).trans (hb3.mono (by omega))
  have lt3 : w.heap.size < w2.heap.size + 1 := by omega
  have r0 := (hb3.cell (p := ⟨w.heap.size, 0, none⟩) lt3).trans (cell_al (cell_al (below_some hB_w1_2 _ _ _ (below_some hb1 _ _ _ (cell_nu (k := w.heap.size) (i := 0) rfl rfl)))))
  have r1 := (hb3.cell (p := ⟨w.heap.size, 1, none⟩) lt3).trans (cell_al (cell_al (below_some hB_w1_2 _ _ _ (below_some hb1 _ _ _ (cell_nu (k := w.heap.size) (i := 1) rfl rfl)))))
  have f0 : w3.frozen? ⟨w.heap.size, 0, none⟩ = false := (hb3.frozen (p := ⟨w.heap.size, 0, none⟩) lt3).trans ((below_al (below_al hB_w1_2)).frozen (p := ⟨w.heap.size, 0, none⟩) lt_w_w1 |>.trans ((hb1.frozen (p := ⟨w.heap.size, 0, none⟩) (by simp)).trans (blk_free (blk_nu rfl))))
  have f1 : w3.frozen? ⟨w.heap.size, 1, none⟩ = false := (hb3.frozen (p := ⟨w.heap.size, 1, none⟩) lt3).trans ((below_al (below_al hB_w1_2)).frozen (p := ⟨w.heap.size, 1, none⟩) lt_w_w1 |>.trans ((hb1.frozen (p := ⟨w.heap.size, 1, none⟩) (by simp)).trans (blk_free (blk_nu rfl))))
  have lw3 : w.heap.size < w3.heap.size := by omega
  clear hb3 hc1 hc2 hf1 hf2 hb1 hb2
  go_wp2_with fail
  go_quiet (fail)
  rw [HN.out]
  go_wp2_with fail
  all_goals
    refine (rnew_at _ nn (by have := HM.out; omega) hnn _).mono ?_; rintro e w4 ⟨rfl, hb4⟩
    have z4 := hb4.size; simp at z4
    obtain ⟨hc4, hf4⟩ := bcell hb4
    have hB4 : Below w.heap.size w w4 := below_step (w := w) hb4 (by repeat (first | (with_reducible assumption) | (with_reducible refine below_drewN' ?_ _)))
    have r40 : w4.cell? ⟨w.heap.size, 0, none⟩ = some (.int .i64 0) := (hb4.cell (p := ⟨w.heap.size, 0, none⟩) (by simpa using lw3)).trans (by simpa using r0)
    have r41 : w4.cell? ⟨w.heap.size, 1, none⟩ = some (.int .i64 0) := (hb4.cell (p := ⟨w.heap.size, 1, none⟩) (by simpa using lw3)).trans (by simpa using r1)
    have f40 : w4.frozen? ⟨w.heap.size, 0, none⟩ = false := (hb4.frozen (p := ⟨w.heap.size, 0, none⟩) (by simpa using lw3)).trans (by simpa using f0)
    have f41 : w4.frozen? ⟨w.heap.size, 1, none⟩ = false := (hb4.frozen (p := ⟨w.heap.size, 1, none⟩) (by simpa using lw3)).trans (by simpa using f1)
    go_wp2_with fail
    refine bodyPost_ret (v := .tuple #[.agg #[.int .i64 (Thi.rN nn 360), .int .i64 (Thi.rD nn 360)], .int .i64 0]) (by simp [results, Tryd.results57, go_sem, r40, r41]) rfl ⟨rfl, ?_⟩
    exact below_set (below_set hB4 (Nat.le_refl _)) (Nat.le_refl _)
set_option maxHeartbeats 8000000 in
theorem part_is (a b y1 m1 d1 y2 m2 d2 D1 D2 : Int) (l1 l2 : Bool) (nn : Nat) (x : Int) (pb px : Nat) (h1 : 1 ≤ a) (h2 : a ≤ 3652059) (h3 : 1 ≤ b) (h4 : b ≤ 3652059) (hab : ¬ b < a) (HA : Hid (Cal.yOf a = y1 ∧ Cal.mOf a = m1 ∧ Cal.dOf a = d1 ∧ Mon.lastB a = l1)) (HB' : Hid (Cal.yOf b = y2 ∧ Cal.mOf b = m2 ∧ Cal.dOf b = d2 ∧ Mon.lastB b = l2))
    (hy : 1 ≤ y1 ∧ y1 ≤ 9999 ∧ 1 ≤ y2 ∧ y2 ≤ 9999 ∧ 1 ≤ m1 ∧ m1 ≤ 12 ∧ 1 ≤ m2 ∧ m2 ≤ 12 ∧ 0 ≤ D1 ∧ D1 ≤ 100 ∧ 0 ≤ D2 ∧ D2 ≤ 100) (HD : Hid (en l1 d1 = D1 ∧ ix b x m2 l2 d2 = D2)) (N : Int) (HN : Hid (360 * (y2 - y1) + 30 * (m2 - m1) + D2 - D1 = N)) (HM : Hid (max 0 N = (nn : Int))) (hnn : nn ≤ 4000000) (w : World) (he : w.cell? ⟨pb, 0, none⟩ = some (.int .i64 b)) (hx : w.cell? ⟨px, 0, none⟩ = some (.int .i64 x)) (hL : Laid w) :
    Calls Tryd.prog 57 #[.int .i64 a, .int .i64 b, .func (.func 65) #[] #[.pointer (some ⟨pb, 0, none⟩), .pointer (some ⟨px, 0, none⟩)]] w fun e w' => e = .returned (.tuple #[.agg #[.int .i64 (Thi.rN nn 360), .int .i64 (Thi.rD nn 360)], .int .i64 0]) ∧ Below w.heap.size w w' := by
  obtain ⟨y1a, y1b, y2a, y2b, m1a, m1b, m2a, m2b, D1a, D1b, D2a, D2b⟩ := hy
  have q1 : IntKind.i64.wrap (y2 - y1) = y2 - y1 := IntWalk.i64_in _ (by omega)
  have q2 : IntKind.i64.wrap (360 * (y2 - y1)) = 360 * (y2 - y1) := IntWalk.i64_in _ (by omega)
  have q3 : IntKind.i64.wrap (m2 - m1) = m2 - m1 := IntWalk.i64_in _ (by omega)
  have q4 : IntKind.i64.wrap (30 * (m2 - m1)) = 30 * (m2 - m1) := IntWalk.i64_in _ (by omega)
  have q5 : IntKind.i64.wrap (360 * (y2 - y1) + 30 * (m2 - m1)) = 360 * (y2 - y1) + 30 * (m2 - m1) := IntWalk.i64_in _ (by omega)
  have q6 : IntKind.i64.wrap (360 * (y2 - y1) + 30 * (m2 - m1) + D2) = 360 * (y2 - y1) + 30 * (m2 - m1) + D2 := IntWalk.i64_in _ (by omega)
  have q7 : IntKind.i64.wrap (360 * (y2 - y1) + 30 * (m2 - m1) + D2 - D1) = 360 * (y2 - y1) + 30 * (m2 - m1) + D2 - D1 := IntWalk.i64_in _ (by omega)
  have hB : Below w.heap.size w w := Below.refl _ _
  have hbe : pb < w.heap.size := World.block_lt_of_cell? _ _ he
  have hbe' : pb ≤ w.heap.size := by omega
  have hbx : px < w.heap.size := World.block_lt_of_cell? _ _ hx
  have hbx' : px ≤ w.heap.size := by omega
  go_enter Tryd.func57, Tryd.ntmps57
  go_wp2_with fail
  refine (tof_in _ _ _ _ _ h1 h2 HA _ (hL.below (by repeat (first | (with_reducible assumption) | (with_reducible exact Below.refl _ _) | (with_reducible refine Below.drew ?_) | (with_reducible refine below_drewN' ?_ _) | (with_reducible refine below_al ?_) | ((with_reducible refine below_set ?_ ?_); rotate_left; focus (first | (simp; done) | (simp; omega))))))).mono ?_; rintro e w1 ⟨rfl, hb1⟩
  have hz1 := hb1.size; (try simp at hz1); obtain ⟨hc1, hf1⟩ := bcell hb1
  have hB_w_1 := below_step (w := w) hb1 (by repeat (first | (with_reducible assumption) | (with_reducible exact Below.refl _ _) | (with_reducible refine Below.drew ?_) | (with_reducible refine below_drewN' ?_ _) | (with_reducible refine below_al ?_) | ((with_reducible refine below_set ?_ ?_); rotate_left; focus (first | (simp; done) | (simp; omega)))))
  have le_w_w1 : w.heap.size ≤ w1.heap.size := by omega
  try have lt_w_w1 : w.heap.size < w1.heap.size := by omega
  try have lp01_w_w1 : w.heap.size < w1.heap.size + 1 := by omega
  try have lp02_w_w1 : w.heap.size < w1.heap.size + 1 + 1 := by omega
  try have lp03_w_w1 : w.heap.size < w1.heap.size + 1 + 1 + 1 := by omega
  try have lp11_w_w1 : w.heap.size + 1 < w1.heap.size + 1 := by omega
  try have lp12_w_w1 : w.heap.size + 1 < w1.heap.size + 1 + 1 := by omega
  try have lp13_w_w1 : w.heap.size + 1 < w1.heap.size + 1 + 1 + 1 := by omega
  try have lp22_w_w1 : w.heap.size + 1 + 1 < w1.heap.size + 1 + 1 := by omega
  try have lp23_w_w1 : w.heap.size + 1 + 1 < w1.heap.size + 1 + 1 + 1 := by omega
  have s1_w1 : w1.heap.size < w1.heap.size + 1 + 1 := by omega
  have s2_w1 : w1.heap.size < w1.heap.size + 1 + 1 + 1 := by omega
  have lb_pb_w1 : pb < w1.heap.size := by omega
  have lc_pb_w1 : pb ≤ w1.heap.size := by omega
  have lb_px_w1 : px < w1.heap.size := by omega
  have lc_px_w1 : px ≤ w1.heap.size := by omega
  go_wp2_with fail
  refine (tof_in _ _ _ _ _ h3 h4 HB' _ (hL.below (by repeat (first | (with_reducible assumption) | (with_reducible exact Below.refl _ _) | (with_reducible refine Below.drew ?_) | (with_reducible refine below_drewN' ?_ _) | (with_reducible refine below_al ?_) | ((with_reducible refine below_set ?_ ?_); rotate_left; focus (first | (simp; done) | (simp; omega))))))).mono ?_; rintro e w2 ⟨rfl, hb2⟩
  have hz2 := hb2.size; (try simp at hz2); obtain ⟨hc2, hf2⟩ := bcell hb2
  have hB_w_2 := below_step (w := w) hb2 (by repeat (first | (with_reducible assumption) | (with_reducible exact Below.refl _ _) | (with_reducible refine Below.drew ?_) | (with_reducible refine below_drewN' ?_ _) | (with_reducible refine below_al ?_) | ((with_reducible refine below_set ?_ ?_); rotate_left; focus (first | (simp; done) | (simp; omega)))))
  have hB_w1_2 := below_step (w := w1) hb2 (by repeat (first | (with_reducible assumption) | (with_reducible exact Below.refl _ _) | (with_reducible refine Below.drew ?_) | (with_reducible refine below_drewN' ?_ _) | (with_reducible refine below_al ?_) | ((with_reducible refine below_set ?_ ?_); rotate_left; focus (first | (simp; done) | (simp; omega)))))
  have le_w_w2 : w.heap.size ≤ w2.heap.size := by omega
  try have lt_w_w2 : w.heap.size < w2.heap.size := by omega
  try have lp01_w_w2 : w.heap.size < w2.heap.size + 1 := by omega
  try have lp02_w_w2 : w.heap.size < w2.heap.size + 1 + 1 := by omega
  try have lp03_w_w2 : w.heap.size < w2.heap.size + 1 + 1 + 1 := by omega
  try have lp11_w_w2 : w.heap.size + 1 < w2.heap.size + 1 := by omega
  try have lp12_w_w2 : w.heap.size + 1 < w2.heap.size + 1 + 1 := by omega
  try have lp13_w_w2 : w.heap.size + 1 < w2.heap.size + 1 + 1 + 1 := by omega
  try have lp22_w_w2 : w.heap.size + 1 + 1 < w2.heap.size + 1 + 1 := by omega
  try have lp23_w_w2 : w.heap.size + 1 + 1 < w2.heap.size + 1 + 1 + 1 := by omega
  have le_w1_w2 : w1.heap.size ≤ w2.heap.size := by omega
  try have lt_w1_w2 : w1.heap.size < w2.heap.size := by omega
  try have lp01_w1_w2 : w1.heap.size < w2.heap.size + 1 := by omega
  try have lp02_w1_w2 : w1.heap.size < w2.heap.size + 1 + 1 := by omega
  try have lp03_w1_w2 : w1.heap.size < w2.heap.size + 1 + 1 + 1 := by omega
  try have lp11_w1_w2 : w1.heap.size + 1 < w2.heap.size + 1 := by omega
  try have lp12_w1_w2 : w1.heap.size + 1 < w2.heap.size + 1 + 1 := by omega
  try have lp13_w1_w2 : w1.heap.size + 1 < w2.heap.size + 1 + 1 + 1 := by omega
  try have lp22_w1_w2 : w1.heap.size + 1 + 1 < w2.heap.size + 1 + 1 := by omega
  try have lp23_w1_w2 : w1.heap.size + 1 + 1 < w2.heap.size + 1 + 1 + 1 := by omega
  try have le1_w1_w2 : w1.heap.size + 1 ≤ w2.heap.size := by omega
  try have lt1_w1_w2 : w1.heap.size + 1 < w2.heap.size := by omega
  try have le2_w1_w2 : w1.heap.size + 1 + 1 ≤ w2.heap.size := by omega
  try have lt2_w1_w2 : w1.heap.size + 1 + 1 < w2.heap.size := by omega
  have s1_w2 : w2.heap.size < w2.heap.size + 1 + 1 := by omega
  have s2_w2 : w2.heap.size < w2.heap.size + 1 + 1 + 1 := by omega
  have lb_pb_w2 : pb < w2.heap.size := by omega
  have lc_pb_w2 : pb ≤ w2.heap.size := by omega
  have lb_px_w2 : px < w2.heap.size := by omega
  have lc_px_w2 : px ≤ w2.heap.size := by omega
  go_wp2_with fail
  refine (isda1_c _ y1 m1 d1 l1 y2 m2 d2 l2 b x pb px _ (blk_nu (by simp)) (cell_al (cell_al (below_some hB_w_2 _ _ _ he))) (cell_al (cell_al (below_some hB_w_2 _ _ _ hx)))).mono ?_; rintro e w3 ⟨rfl, hT, hb3⟩
  rw [HD.out.1, HD.out.2] at hT
  have HT := Lib.hid hT; obtain ⟨hk, hfz, c0, c1, c2, c3, c4, c5, c6, c7⟩ := hT.cells; clear hT
  have z3 := hb3.size; simp at z3
  have hB3 : Below w.heap.size w w3 := (below_al (below_al hB_w_2)).trans (hb3.mono (by omega))
  have lt3 : w.heap.size < w2.heap.size + 1 := by omega
  have r0 := (hb3.cell (p := ⟨w.heap.size, 0, none⟩) lt3).trans (cell_al (cell_al (below_some hB_w1_2 _ _ _ (below_some hb1 _ _ _ (cell_nu (k := w.heap.size) (i := 0) rfl rfl)))))
  have r1 := (hb3.cell (p := ⟨w.heap.size, 1, none⟩) lt3).trans (cell_al (cell_al (below_some hB_w1_2 _ _ _ (below_some hb1 _ _ _ (cell_nu (k := w.heap.size) (i := 1) rfl rfl)))))
  have f0 : w3.frozen? ⟨w.heap.size, 0, none⟩ = false := (hb3.frozen (p := ⟨w.heap.size, 0, none⟩) lt3).trans ((below_al (below_al hB_w1_2)).frozen (p := ⟨w.heap.size, 0, none⟩) lt_w_w1 |>.trans ((hb1.frozen (p := ⟨w.heap.size, 0, none⟩) (by simp)).trans (blk_free (blk_nu rfl))))
  have f1 : w3.frozen? ⟨w.heap.size, 1, none⟩ = false := (hb3.frozen (p := ⟨w.heap.size, 1, none⟩) lt3).trans ((below_al (below_al hB_w1_2)).frozen (p := ⟨w.heap.size, 1, none⟩) lt_w_w1 |>.trans ((hb1.frozen (p := ⟨w.heap.size, 1, none⟩) (by simp)).trans (blk_free (blk_nu rfl))))
  have lw3 : w.heap.size < w3.heap.size := by omega
  clear hb3 hc1 hc2 hf1 hf2 hb1 hb2
  go_wp2_with fail
  go_quiet (fail)
  rw [HN.out]
  go_wp2_with fail
  all_goals
    refine (rnew_at _ nn (by have := HM.out; omega) hnn _).mono ?_; rintro e w4 ⟨rfl, hb4⟩
    have z4 := hb4.size; simp at z4
    obtain ⟨hc4, hf4⟩ := bcell hb4
    have hB4 : Below w.heap.size w w4 := below_step (w := w) hb4 (by repeat (first | (with_reducible assumption) | (with_reducible refine below_drewN' ?_ _)))
    have r40 : w4.cell? ⟨w.heap.size, 0, none⟩ = some (.int .i64 0) := (hb4.cell (p := ⟨w.heap.size, 0, none⟩) (by simpa using lw3)).trans (by simpa using r0)
    have r41 : w4.cell? ⟨w.heap.size, 1, none⟩ = some (.int .i64 0) := (hb4.cell (p := ⟨w.heap.size, 1, none⟩) (by simpa using lw3)).trans (by simpa using r1)
    have f40 : w4.frozen? ⟨w.heap.size, 0, none⟩ = false := (hb4.frozen (p := ⟨w.heap.size, 0, none⟩) (by simpa using lw3)).trans (by simpa using f0)
    have f41 : w4.frozen? ⟨w.heap.size, 1, none⟩ = false := (hb4.frozen (p := ⟨w.heap.size, 1, none⟩) (by simpa using lw3)).trans (by simpa using f1)
    go_wp2_with fail
    refine bodyPost_ret (v := .tuple #[.agg #[.int .i64 (Thi.rN nn 360), .int .i64 (Thi.rD nn 360)], .int .i64 0]) (by simp [results, Tryd.results57, go_sem, r40, r41]) rfl ⟨rfl, ?_⟩
    exact below_set (below_set hB4 (Nat.le_refl _)) (Nat.le_refl _)
end Go.Proofs.YtjcjchapfiokeaaDoor
