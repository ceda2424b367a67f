/- The contracts of the ways of names, the program's and the document's. Conditions: the table of the ways' names lies as the program's text lays it. -/
import Derived.Test.YtlilffoflkkbdaaDoorRolG
namespace Go.Proofs.YtlilffoflkkbdaaDoor
open Go.RowKit
set_option linter.unusedVariables false
def kindV (x : ByteArray) : Int × Int := if (⟨#[110, 111, 110, 101]⟩ : ByteArray) = x then (0, 0) else if (⟨#[102, 111, 108, 108, 111, 119, 105, 110, 103]⟩ : ByteArray) = x then (1, 0) else if (⟨#[109, 111, 100, 102, 111, 108, 108, 111, 119, 105, 110, 103]⟩ : ByteArray) = x then (2, 0) else if (⟨#[112, 114, 101, 99, 101, 100, 105, 110, 103]⟩ : ByteArray) = x then (3, 0) else if (⟨#[109, 111, 100, 112, 114, 101, 99, 101, 100, 105, 110, 103]⟩ : ByteArray) = x then (4, 0) else (0, 10)
theorem idx_0 (x : ByteArray) (e0 : ((⟨#[110, 111, 110, 101]⟩ : ByteArray).toList == x.toList) = true) : Lib.idxOfS nms x = 0 := by
  have y0 : (⟨#[110, 111, 110, 101]⟩ : ByteArray) = x := (Lib.bytes_beq_iff _ _).1 e0
  unfold Lib.idxOfS nms
  rw [Lib.idxFromS, if_pos y0]
  rfl
theorem kindV_0 (x : ByteArray) (e0 : ((⟨#[110, 111, 110, 101]⟩ : ByteArray).toList == x.toList) = true) : kindV x = (0, 0) := by
  have y0 : (⟨#[110, 111, 110, 101]⟩ : ByteArray) = x := (Lib.bytes_beq_iff _ _).1 e0
  unfold kindV
  rw [if_pos y0]
theorem kindP_0 (x : ByteArray) (e0 : ((⟨#[110, 111, 110, 101]⟩ : ByteArray).toList == x.toList) = true) (w : World) (hN : Named w) : Calls Tryd.prog 26 #[.string x] w fun e w' => e = .returned (.tuple #[.int .i64 0, .int .i64 0]) ∧ w = w' := by
  have hi := Lib.hid (idx_0 x e0)
  clear e0
  go_enter Tryd.func26, Tryd.ntmps26
  go_wp2_with fail
  refine (nidx_c _ _ _ hN).mono ?_; rintro e w' ⟨rfl, rfl⟩
  rw [hi.out]
  go_wp2_with fail
  go_ret2
  exact ⟨rfl, rfl⟩
set_option maxHeartbeats 2000000 in
theorem kindR_0 (x : ByteArray) (e0 : ((⟨#[110, 111, 110, 101]⟩ : ByteArray).toList == x.toList) = true) (w : World) : Calls Tryd.prog 27 #[.string x] w fun e w' => e = .returned (.tuple #[.int .i64 0, .int .i64 0]) ∧ Below w.heap.size w w' := by
  have hB : Below w.heap.size w w := Below.refl _ _
  have f0 : (([110, 111, 110, 101] : List UInt8) == x.toList) = true := by rw [← (show (⟨#[110, 111, 110, 101]⟩ : ByteArray).toList = [110, 111, 110, 101] by rw [ByteArray.toList_eq])]; exact e0
  go_enter Tryd.func27, Tryd.ntmps27
  go_wp2_with fail
  refine wp_loop_rounds 1 ?_
  rw [rounds_succ]
  go_wp2_with fail
  refine (nameR_0 _).mono ?_; rintro e w1 ⟨rfl, hb1⟩
  have hz1 := hb1.size; (try simp at hz1); obtain ⟨hc1, hf1⟩ := bcell hb1; have hB1 := below_step (w := w) hb1 (by repeat (first | assumption | exact Below.refl _ _ | (with_reducible refine Below.drew ?_) | (with_reducible refine below_drewN' ?_ _) | (with_reducible refine below_al ?_) | ((with_reducible refine below_set ?_ ?_); rotate_left; focus (first | (simp; done) | (simp; omega)))))
  have le_w_w1 : w.heap.size ≤ w1.heap.size := by omega
  try have lt_w_w1 : w.heap.size < w1.heap.size := by omega
  go_wp2_with fail
  go_ret2
  exact ⟨rfl, by repeat (first | assumption | exact Below.refl _ _ | (with_reducible refine Below.drew ?_) | (with_reducible refine below_drewN' ?_ _) | (with_reducible refine below_al ?_) | ((with_reducible refine below_set ?_ ?_); rotate_left; focus (first | (simp; done) | (simp; omega))))⟩
theorem idx_1 (x : ByteArray) (e0 : ((⟨#[110, 111, 110, 101]⟩ : ByteArray).toList == x.toList) = false) (e1 : ((⟨#[102, 111, 108, 108, 111, 119, 105, 110, 103]⟩ : ByteArray).toList == x.toList) = true) : Lib.idxOfS nms x = 1 := by
  have n0 : (⟨#[110, 111, 110, 101]⟩ : ByteArray) ≠ x := (Lib.bytes_beq_false_iff _ _).1 e0
  have y1 : (⟨#[102, 111, 108, 108, 111, 119, 105, 110, 103]⟩ : ByteArray) = x := (Lib.bytes_beq_iff _ _).1 e1
  unfold Lib.idxOfS nms
  rw [Lib.idxFromS, if_neg n0, Lib.idxFromS, if_pos y1]
  rfl
theorem kindV_1 (x : ByteArray) (e0 : ((⟨#[110, 111, 110, 101]⟩ : ByteArray).toList == x.toList) = false) (e1 : ((⟨#[102, 111, 108, 108, 111, 119, 105, 110, 103]⟩ : ByteArray).toList == x.toList) = true) : kindV x = (1, 0) := by
  have n0 : (⟨#[110, 111, 110, 101]⟩ : ByteArray) ≠ x := (Lib.bytes_beq_false_iff _ _).1 e0
  have y1 : (⟨#[102, 111, 108, 108, 111, 119, 105, 110, 103]⟩ : ByteArray) = x := (Lib.bytes_beq_iff _ _).1 e1
  unfold kindV
  rw [if_neg n0, if_pos y1]
theorem kindP_1 (x : ByteArray) (e0 : ((⟨#[110, 111, 110, 101]⟩ : ByteArray).toList == x.toList) = false) (e1 : ((⟨#[102, 111, 108, 108, 111, 119, 105, 110, 103]⟩ : ByteArray).toList == x.toList) = true) (w : World) (hN : Named w) : Calls Tryd.prog 26 #[.string x] w fun e w' => e = .returned (.tuple #[.int .i64 1, .int .i64 0]) ∧ w = w' := by
  have hi := Lib.hid (idx_1 x e0 e1)
  clear e0 e1
  go_enter Tryd.func26, Tryd.ntmps26
  go_wp2_with fail
  refine (nidx_c _ _ _ hN).mono ?_; rintro e w' ⟨rfl, rfl⟩
  rw [hi.out]
  go_wp2_with fail
  go_ret2
  exact ⟨rfl, rfl⟩
set_option maxHeartbeats 2000000 in
theorem kindR_1 (x : ByteArray) (e0 : ((⟨#[110, 111, 110, 101]⟩ : ByteArray).toList == x.toList) = false) (e1 : ((⟨#[102, 111, 108, 108, 111, 119, 105, 110, 103]⟩ : ByteArray).toList == x.toList) = true) (w : World) : Calls Tryd.prog 27 #[.string x] w fun e w' => e = .returned (.tuple #[.int .i64 1, .int .i64 0]) ∧ Below w.heap.size w w' := by
  have hB : Below w.heap.size w w := Below.refl _ _
  have f0 : (([110, 111, 110, 101] : List UInt8) == x.toList) = false := by rw [← (show (⟨#[110, 111, 110, 101]⟩ : ByteArray).toList = [110, 111, 110, 101] by rw [ByteArray.toList_eq])]; exact e0
  have f1 : (([102, 111, 108, 108, 111, 119, 105, 110, 103] : List UInt8) == x.toList) = true := by rw [← (show (⟨#[102, 111, 108, 108, 111, 119, 105, 110, 103]⟩ : ByteArray).toList = [102, 111, 108, 108, 111, 119, 105, 110, 103] by rw [ByteArray.toList_eq])]; exact e1
  go_enter Tryd.func27, Tryd.ntmps27
  go_wp2_with fail
  refine wp_loop_rounds 2 ?_
  rw [rounds_succ]
  go_wp2_with fail
  refine (nameR_0 _).mono ?_; rintro e w1 ⟨rfl, hb1⟩
  have hz1 := hb1.size; (try simp at hz1); obtain ⟨hc1, hf1⟩ := bcell hb1; have hB1 := below_step (w := w) hb1 (by repeat (first | assumption | exact Below.refl _ _ | (with_reducible refine Below.drew ?_) | (with_reducible refine below_drewN' ?_ _) | (with_reducible refine below_al ?_) | ((with_reducible refine below_set ?_ ?_); rotate_left; focus (first | (simp; done) | (simp; omega)))))
  have le_w_w1 : w.heap.size ≤ w1.heap.size := by omega
  try have lt_w_w1 : w.heap.size < w1.heap.size := by omega
  go_wp2_with fail
  rw [rounds_succ]
  go_wp2_with fail
  refine (nameR_1 _).mono ?_; rintro e w2 ⟨rfl, hb2⟩
  have hz2 := hb2.size; (try simp at hz2); obtain ⟨hc2, hf2⟩ := bcell hb2; have hB2 := below_step (w := w) hb2 (by repeat (first | assumption | exact Below.refl _ _ | (with_reducible refine Below.drew ?_) | (with_reducible refine below_drewN' ?_ _) | (with_reducible refine below_al ?_) | ((with_reducible refine below_set ?_ ?_); rotate_left; focus (first | (simp; done) | (simp; omega)))))
  have le_w_w2 : w.heap.size ≤ w2.heap.size := by omega
  try have lt_w_w2 : w.heap.size < w2.heap.size := by omega
  have le_w1_w2 : w1.heap.size ≤ w2.heap.size := by omega
  try have lt_w1_w2 : w1.heap.size < w2.heap.size := by omega
  go_wp2_with fail
  go_ret2
  exact ⟨rfl, by repeat (first | assumption | exact Below.refl _ _ | (with_reducible refine Below.drew ?_) | (with_reducible refine below_drewN' ?_ _) | (with_reducible refine below_al ?_) | ((with_reducible refine below_set ?_ ?_); rotate_left; focus (first | (simp; done) | (simp; omega))))⟩
theorem idx_2 (x : ByteArray) (e0 : ((⟨#[110, 111, 110, 101]⟩ : ByteArray).toList == x.toList) = false) (e1 : ((⟨#[102, 111, 108, 108, 111, 119, 105, 110, 103]⟩ : ByteArray).toList == x.toList) = false) (e2 : ((⟨#[109, 111, 100, 102, 111, 108, 108, 111, 119, 105, 110, 103]⟩ : ByteArray).toList == x.toList) = true) : Lib.idxOfS nms x = 2 := by
  have n0 : (⟨#[110, 111, 110, 101]⟩ : ByteArray) ≠ x := (Lib.bytes_beq_false_iff _ _).1 e0
  have n1 : (⟨#[102, 111, 108, 108, 111, 119, 105, 110, 103]⟩ : ByteArray) ≠ x := (Lib.bytes_beq_false_iff _ _).1 e1
  have y2 : (⟨#[109, 111, 100, 102, 111, 108, 108, 111, 119, 105, 110, 103]⟩ : ByteArray) = x := (Lib.bytes_beq_iff _ _).1 e2
  unfold Lib.idxOfS nms
  rw [Lib.idxFromS, if_neg n0, Lib.idxFromS, if_neg n1, Lib.idxFromS, if_pos y2]
  rfl
theorem kindV_2 (x : ByteArray) (e0 : ((⟨#[110, 111, 110, 101]⟩ : ByteArray).toList == x.toList) = false) (e1 : ((⟨#[102, 111, 108, 108, 111, 119, 105, 110, 103]⟩ : ByteArray).toList == x.toList) = false) (e2 : ((⟨#[109, 111, 100, 102, 111, 108, 108, 111, 119, 105, 110, 103]⟩ : ByteArray).toList == x.toList) = true) : kindV x = (2, 0) := by
  have n0 : (⟨#[110, 111, 110, 101]⟩ : ByteArray) ≠ x := (Lib.bytes_beq_false_iff _ _).1 e0
  have n1 : (⟨#[102, 111, 108, 108, 111, 119, 105, 110, 103]⟩ : ByteArray) ≠ x := (Lib.bytes_beq_false_iff _ _).1 e1
  have y2 : (⟨#[109, 111, 100, 102, 111, 108, 108, 111, 119, 105, 110, 103]⟩ : ByteArray) = x := (Lib.bytes_beq_iff _ _).1 e2
  unfold kindV
  rw [if_neg n0, if_neg n1, if_pos y2]
theorem kindP_2 (x : ByteArray) (e0 : ((⟨#[110, 111, 110, 101]⟩ : ByteArray).toList == x.toList) = false) (e1 : ((⟨#[102, 111, 108, 108, 111, 119, 105, 110, 103]⟩ : ByteArray).toList == x.toList) = false) (e2 : ((⟨#[109, 111, 100, 102, 111, 108, 108, 111, 119, 105, 110, 103]⟩ : ByteArray).toList == x.toList) = true) (w : World) (hN : Named w) : Calls Tryd.prog 26 #[.string x] w fun e w' => e = .returned (.tuple #[.int .i64 2, .int .i64 0]) ∧ w = w' := by
  have hi := Lib.hid (idx_2 x e0 e1 e2)
  clear e0 e1 e2
  go_enter Tryd.func26, Tryd.ntmps26
  go_wp2_with fail
  refine (nidx_c _ _ _ hN).mono ?_; rintro e w' ⟨rfl, rfl⟩
  rw [hi.out]
  go_wp2_with fail
  go_ret2
  exact ⟨rfl, rfl⟩
set_option maxHeartbeats 2000000 in
theorem kindR_2 (x : ByteArray) (e0 : ((⟨#[110, 111, 110, 101]⟩ : ByteArray).toList == x.toList) = false) (e1 : ((⟨#[102, 111, 108, 108, 111, 119, 105, 110, 103]⟩ : ByteArray).toList == x.toList) = false) (e2 : ((⟨#[109, 111, 100, 102, 111, 108, 108, 111, 119, 105, 110, 103]⟩ : ByteArray).toList == x.toList) = true) (w : World) : Calls Tryd.prog 27 #[.string x] w fun e w' => e = .returned (.tuple #[.int .i64 2, .int .i64 0]) ∧ Below w.heap.size w w' := by
  have hB : Below w.heap.size w w := Below.refl _ _
  have f0 : (([110, 111, 110, 101] : List UInt8) == x.toList) = false := by rw [← (show (⟨#[110, 111, 110, 101]⟩ : ByteArray).toList = [110, 111, 110, 101] by rw [ByteArray.toList_eq])]; exact e0
  have f1 : (([102, 111, 108, 108, 111, 119, 105, 110, 103] : List UInt8) == x.toList) = false := by rw [← (show (⟨#[102, 111, 108, 108, 111, 119, 105, 110, 103]⟩ : ByteArray).toList = [102, 111, 108, 108, 111, 119, 105, 110, 103] by rw [ByteArray.toList_eq])]; exact e1
  have f2 : (([109, 111, 100, 102, 111, 108, 108, 111, 119, 105, 110, 103] : List UInt8) == x.toList) = true := by rw [← (show (⟨#[109, 111, 100, 102, 111, 108, 108, 111, 119, 105, 110, 103]⟩ : ByteArray).toList = [109, 111, 100, 102, 111, 108, 108, 111, 119, 105, 110, 103] by rw [ByteArray.toList_eq])]; exact e2
  go_enter Tryd.func27, Tryd.ntmps27
  go_wp2_with fail
  refine wp_loop_rounds 3 ?_
  rw [rounds_succ]
  go_wp2_with fail
  refine (nameR_0 _).mono ?_; rintro e w1 ⟨rfl, hb1⟩
  have hz1 := hb1.size; (try simp at hz1); obtain ⟨hc1, hf1⟩ := bcell hb1; have hB1 := below_step (w := w) hb1 (by repeat (first | assumption | exact Below.refl _ _ | (with_reducible refine Below.drew ?_) | (with_reducible refine below_drewN' ?_ _) | (with_reducible refine below_al ?_) | ((with_reducible refine below_set ?_ ?_); rotate_left; focus (first | (simp; done) | (simp; omega)))))
  have le_w_w1 : w.heap.size ≤ w1.heap.size := by omega
  try have lt_w_w1 : w.heap.size < w1.heap.size := by omega
  go_wp2_with fail
  rw [rounds_succ]
  go_wp2_with fail
  refine (nameR_1 _).mono ?_; rintro e w2 ⟨rfl, hb2⟩
  have hz2 := hb2.size; (try simp at hz2); obtain ⟨hc2, hf2⟩ := bcell hb2; have hB2 := below_step (w := w) hb2 (by repeat (first | assumption | exact Below.refl _ _ | (with_reducible refine Below.drew ?_) | (with_reducible refine below_drewN' ?_ _) | (with_reducible refine below_al ?_) | ((with_reducible refine below_set ?_ ?_); rotate_left; focus (first | (simp; done) | (simp; omega)))))
  have le_w_w2 : w.heap.size ≤ w2.heap.size := by omega
  try have lt_w_w2 : w.heap.size < w2.heap.size := by omega
  have le_w1_w2 : w1.heap.size ≤ w2.heap.size := by omega
  try have lt_w1_w2 : w1.heap.size < w2.heap.size := by omega
  go_wp2_with fail
  rw [rounds_succ]
  go_wp2_with fail
  refine (nameR_2 _).mono ?_; rintro e w3 ⟨rfl, hb3⟩
  have hz3 := hb3.size; (try simp at hz3); obtain ⟨hc3, hf3⟩ := bcell hb3; have hB3 := below_step (w := w) hb3 (by repeat (first | assumption | exact Below.refl _ _ | (with_reducible refine Below.drew ?_) | (with_reducible refine below_drewN' ?_ _) | (with_reducible refine below_al ?_) | ((with_reducible refine below_set ?_ ?_); rotate_left; focus (first | (simp; done) | (simp; omega)))))
  have le_w_w3 : w.heap.size ≤ w3.heap.size := by omega
  try have lt_w_w3 : w.heap.size < w3.heap.size := by omega
  have le_w1_w3 : w1.heap.size ≤ w3.heap.size := by omega
  try have lt_w1_w3 : w1.heap.size < w3.heap.size := by omega
  have le_w2_w3 : w2.heap.size ≤ w3.heap.size := by omega
  try have lt_w2_w3 : w2.heap.size < w3.heap.size := by omega
  go_wp2_with fail
  go_ret2
  exact ⟨rfl, by repeat (first | assumption | exact Below.refl _ _ | (with_reducible refine Below.drew ?_) | (with_reducible refine below_drewN' ?_ _) | (with_reducible refine below_al ?_) | ((with_reducible refine below_set ?_ ?_); rotate_left; focus (first | (simp; done) | (simp; omega))))⟩
theorem idx_3 (x : ByteArray) (e0 : ((⟨#[110, 111, 110, 101]⟩ : ByteArray).toList == x.toList) = false) (e1 : ((⟨#[102, 111, 108, 108, 111, 119, 105, 110, 103]⟩ : ByteArray).toList == x.toList) = false) (e2 : ((⟨#[109, 111, 100, 102, 111, 108, 108, 111, 119, 105, 110, 103]⟩ : ByteArray).toList == x.toList) = false) (e3 : ((⟨#[112, 114, 101, 99, 101, 100, 105, 110, 103]⟩ : ByteArray).toList == x.toList) = true) : Lib.idxOfS nms x = 3 := by
  have n0 : (⟨#[110, 111, 110, 101]⟩ : ByteArray) ≠ x := (Lib.bytes_beq_false_iff _ _).1 e0
  have n1 : (⟨#[102, 111, 108, 108, 111, 119, 105, 110, 103]⟩ : ByteArray) ≠ x := (Lib.bytes_beq_false_iff _ _).1 e1
  have n2 : (⟨#[109, 111, 100, 102, 111, 108, 108, 111, 119, 105, 110, 103]⟩ : ByteArray) ≠ x := (Lib.bytes_beq_false_iff _ _).1 e2
  have y3 : (⟨#[112, 114, 101, 99, 101, 100, 105, 110, 103]⟩ : ByteArray) = x := (Lib.bytes_beq_iff _ _).1 e3
  unfold Lib.idxOfS nms
  rw [Lib.idxFromS, if_neg n0, Lib.idxFromS, if_neg n1, Lib.idxFromS, if_neg n2, Lib.idxFromS, if_pos y3]
  rfl
theorem kindV_3 (x : ByteArray) (e0 : ((⟨#[110, 111, 110, 101]⟩ : ByteArray).toList == x.toList) = false) (e1 : ((⟨#[102, 111, 108, 108, 111, 119, 105, 110, 103]⟩ : ByteArray).toList == x.toList) = false) (e2 : ((⟨#[109, 111, 100, 102, 111, 108, 108, 111, 119, 105, 110, 103]⟩ : ByteArray).toList == x.toList) = false) (e3 : ((⟨#[112, 114, 101, 99, 101, 100, 105, 110, 103]⟩ : ByteArray).toList == x.toList) = true) : kindV x = (3, 0) := by
  have n0 : (⟨#[110, 111, 110, 101]⟩ : ByteArray) ≠ x := (Lib.bytes_beq_false_iff _ _).1 e0
  have n1 : (⟨#[102, 111, 108, 108, 111, 119, 105, 110, 103]⟩ : ByteArray) ≠ x := (Lib.bytes_beq_false_iff _ _).1 e1
  have n2 : (⟨#[109, 111, 100, 102, 111, 108, 108, 111, 119, 105, 110, 103]⟩ : ByteArray) ≠ x := (Lib.bytes_beq_false_iff _ _).1 e2
  have y3 : (⟨#[112, 114, 101, 99, 101, 100, 105, 110, 103]⟩ : ByteArray) = x := (Lib.bytes_beq_iff _ _).1 e3
  unfold kindV
  rw [if_neg n0, if_neg n1, if_neg n2, if_pos y3]
theorem kindP_3 (x : ByteArray) (e0 : ((⟨#[110, 111, 110, 101]⟩ : ByteArray).toList == x.toList) = false) (e1 : ((⟨#[102, 111, 108, 108, 111, 119, 105, 110, 103]⟩ : ByteArray).toList == x.toList) = false) (e2 : ((⟨#[109, 111, 100, 102, 111, 108, 108, 111, 119, 105, 110, 103]⟩ : ByteArray).toList == x.toList) = false) (e3 : ((⟨#[112, 114, 101, 99, 101, 100, 105, 110, 103]⟩ : ByteArray).toList == x.toList) = true) (w : World) (hN : Named w) : Calls Tryd.prog 26 #[.string x] w fun e w' => e = .returned (.tuple #[.int .i64 3, .int .i64 0]) ∧ w = w' := by
  have hi := Lib.hid (idx_3 x e0 e1 e2 e3)
  clear e0 e1 e2 e3
  go_enter Tryd.func26, Tryd.ntmps26
  go_wp2_with fail
  refine (nidx_c _ _ _ hN).mono ?_; rintro e w' ⟨rfl, rfl⟩
  rw [hi.out]
  go_wp2_with fail
  go_ret2
  exact ⟨rfl, rfl⟩
set_option maxHeartbeats 2000000 in
theorem kindR_3 (x : ByteArray) (e0 : ((⟨#[110, 111, 110, 101]⟩ : ByteArray).toList == x.toList) = false) (e1 : ((⟨#[102, 111, 108, 108, 111, 119, 105, 110, 103]⟩ : ByteArray).toList == x.toList) = false) (e2 : ((⟨#[109, 111, 100, 102, 111, 108, 108, 111, 119, 105, 110, 103]⟩ : ByteArray).toList == x.toList) = false) (e3 : ((⟨#[112, 114, 101, 99, 101, 100, 105, 110, 103]⟩ : ByteArray).toList == x.toList) = true) (w : World) : Calls Tryd.prog 27 #[.string x] w fun e w' => e = .returned (.tuple #[.int .i64 3, .int .i64 0]) ∧ Below w.heap.size w w' := by
  have hB : Below w.heap.size w w := Below.refl _ _
  have f0 : (([110, 111, 110, 101] : List UInt8) == x.toList) = false := by rw [← (show (⟨#[110, 111, 110, 101]⟩ : ByteArray).toList = [110, 111, 110, 101] by rw [ByteArray.toList_eq])]; exact e0
  have f1 : (([102, 111, 108, 108, 111, 119, 105, 110, 103] : List UInt8) == x.toList) = false := by rw [← (show (⟨#[102, 111, 108, 108, 111, 119, 105, 110, 103]⟩ : ByteArray).toList = [102, 111, 108, 108, 111, 119, 105, 110, 103] by rw [ByteArray.toList_eq])]; exact e1
  have f2 : (([109, 111, 100, 102, 111, 108, 108, 111, 119, 105, 110, 103] : List UInt8) == x.toList) = false := by rw [← (show (⟨#[109, 111, 100, 102, 111, 108, 108, 111, 119, 105, 110, 103]⟩ : ByteArray).toList = [109, 111, 100, 102, 111, 108, 108, 111, 119, 105, 110, 103] by rw [ByteArray.toList_eq])]; exact e2
  have f3 : (([112, 114, 101, 99, 101, 100, 105, 110, 103] : List UInt8) == x.toList) = true := by rw [← (show (⟨#[112, 114, 101, 99, 101, 100, 105, 110, 103]⟩ : ByteArray).toList = [112, 114, 101, 99, 101, 100, 105, 110, 103] by rw [ByteArray.toList_eq])]; exact e3
  go_enter Tryd.func27, Tryd.ntmps27
  go_wp2_with fail
  refine wp_loop_rounds 4 ?_
  rw [rounds_succ]
  go_wp2_with fail
  refine (nameR_0 _).mono ?_; rintro e w1 ⟨rfl, hb1⟩
  have hz1 := hb1.size; (try simp at hz1); obtain ⟨hc1, hf1⟩ := bcell hb1; have hB1 := below_step (w := w) hb1 (by repeat (first | assumption | exact Below.refl _ _ | (with_reducible refine Below.drew ?_) | (with_reducible refine below_drewN' ?_ _) | (with_reducible refine below_al ?_) | ((with_reducible refine below_set ?_ ?_); rotate_left; focus (first | (simp; done) | (simp; omega)))))
  have le_w_w1 : w.heap.size ≤ w1.heap.size := by omega
  try have lt_w_w1 : w.heap.size < w1.heap.size := by omega
  go_wp2_with fail
  rw [rounds_succ]
  go_wp2_with fail
  refine (nameR_1 _).mono ?_; rintro e w2 ⟨rfl, hb2⟩
  have hz2 := hb2.size; (try simp at hz2); obtain ⟨hc2, hf2⟩ := bcell hb2; have hB2 := below_step (w := w) hb2 (by repeat (first | assumption | exact Below.refl _ _ | (with_reducible refine Below.drew ?_) | (with_reducible refine below_drewN' ?_ _) | (with_reducible refine below_al ?_) | ((with_reducible refine below_set ?_ ?_); rotate_left; focus (first | (simp; done) | (simp; omega)))))
  have le_w_w2 : w.heap.size ≤ w2.heap.size := by omega
  try have lt_w_w2 : w.heap.size < w2.heap.size := by omega
  have le_w1_w2 : w1.heap.size ≤ w2.heap.size := by omega
  try have lt_w1_w2 : w1.heap.size < w2.heap.size := by omega
  go_wp2_with fail
  rw [rounds_succ]
  go_wp2_with fail
  refine (nameR_2 _).mono ?_; rintro e w3 ⟨rfl, hb3⟩
  have hz3 := hb3.size; (try simp at hz3); obtain ⟨hc3, hf3⟩ := bcell hb3; have hB3 := below_step (w := w) hb3 (by repeat (first | assumption | exact Below.refl _ _ | (with_reducible refine Below.drew ?_) | (with_reducible refine below_drewN' ?_ _) | (with_reducible refine below_al ?_) | ((with_reducible refine below_set ?_ ?_); rotate_left; focus (first | (simp; done) | (simp; omega)))))
  have le_w_w3 : w.heap.size ≤ w3.heap.size := by omega
  try have lt_w_w3 : w.heap.size < w3.heap.size := by omega
  have le_w1_w3 : w1.heap.size ≤ w3.heap.size := by omega
  try have lt_w1_w3 : w1.heap.size < w3.heap.size := by omega
  have le_w2_w3 : w2.heap.size ≤ w3.heap.size := by omega
  try have lt_w2_w3 : w2.heap.size < w3.heap.size := by omega
  go_wp2_with fail
  rw [rounds_succ]
  go_wp2_with fail
  refine (nameR_3 _).mono ?_; rintro e w4 ⟨rfl, hb4⟩
  have hz4 := hb4.size; (try simp at hz4); obtain ⟨hc4, hf4⟩ := bcell hb4; have hB4 := below_step (w := w) hb4 (by repeat (first | assumption | exact Below.refl _ _ | (with_reducible refine Below.drew ?_) | (with_reducible refine below_drewN' ?_ _) | (with_reducible refine below_al ?_) | ((with_reducible refine below_set ?_ ?_); rotate_left; focus (first | (simp; done) | (simp; omega)))))
  have le_w_w4 : w.heap.size ≤ w4.heap.size := by omega
  try have lt_w_w4 : w.heap.size < w4.heap.size := by omega
  have le_w1_w4 : w1.heap.size ≤ w4.heap.size := by omega
  try have lt_w1_w4 : w1.heap.size < w4.heap.size := by omega
  have le_w2_w4 : w2.heap.size ≤ w4.heap.size := by omega
  try have lt_w2_w4 : w2.heap.size < w4.heap.size := by omega
  have le_w3_w4 : w3.heap.size ≤ w4.heap.size := by omega
  try have lt_w3_w4 : w3.heap.size < w4.heap.size := by omega
  go_wp2_with fail
  go_ret2
  exact ⟨rfl, by repeat (first | assumption | exact Below.refl _ _ | (with_reducible refine Below.drew ?_) | (with_reducible refine below_drewN' ?_ _) | (with_reducible refine below_al ?_) | ((with_reducible refine below_set ?_ ?_); rotate_left; focus (first | (simp; done) | (simp; omega))))⟩
theorem idx_4 (x : ByteArray) (e0 : ((⟨#[110, 111, 110, 101]⟩ : ByteArray).toList == x.toList) = false) (e1 : ((⟨#[102, 111, 108, 108, 111, 119, 105, 110, 103]⟩ : ByteArray).toList == x.toList) = false) (e2 : ((⟨#[109, 111, 100, 102, 111, 108, 108, 111, 119, 105, 110, 103]⟩ : ByteArray).toList == x.toList) = false) (e3 : ((⟨#[112, 114, 101, 99, 101, 100, 105, 110, 103]⟩ : ByteArray).toList == x.toList) = false) (e4 : ((⟨#[109, 111, 100, 112, 114, 101, 99, 101, 100, 105, 110, 103]⟩ : ByteArray).toList == x.toList) = true) : Lib.idxOfS nms x = 4 := by
  have n0 : (⟨#[110, 111, 110, 101]⟩ : ByteArray) ≠ x := (Lib.bytes_beq_false_iff _ _).1 e0
  have n1 : (⟨#[102, 111, 108, 108, 111, 119, 105, 110, 103]⟩ : ByteArray) ≠ x := (Lib.bytes_beq_false_iff _ _).1 e1
  have n2 : (⟨#[109, 111, 100, 102, 111, 108, 108, 111, 119, 105, 110, 103]⟩ : ByteArray) ≠ x := (Lib.bytes_beq_false_iff _ _).1 e2
  have n3 : (⟨#[112, 114, 101, 99, 101, 100, 105, 110, 103]⟩ : ByteArray) ≠ x := (Lib.bytes_beq_false_iff _ _).1 e3
  have y4 : (⟨#[109, 111, 100, 112, 114, 101, 99, 101, 100, 105, 110, 103]⟩ : ByteArray) = x := (Lib.bytes_beq_iff _ _).1 e4
  unfold Lib.idxOfS nms
  rw [Lib.idxFromS, if_neg n0, Lib.idxFromS, if_neg n1, Lib.idxFromS, if_neg n2, Lib.idxFromS, if_neg n3, Lib.idxFromS, if_pos y4]
  rfl
theorem kindV_4 (x : ByteArray) (e0 : ((⟨#[110, 111, 110, 101]⟩ : ByteArray).toList == x.toList) = false) (e1 : ((⟨#[102, 111, 108, 108, 111, 119, 105, 110, 103]⟩ : ByteArray).toList == x.toList) = false) (e2 : ((⟨#[109, 111, 100, 102, 111, 108, 108, 111, 119, 105, 110, 103]⟩ : ByteArray).toList == x.toList) = false) (e3 : ((⟨#[112, 114, 101, 99, 101, 100, 105, 110, 103]⟩ : ByteArray).toList == x.toList) = false) (e4 : ((⟨#[109, 111, 100, 112, 114, 101, 99, 101, 100, 105, 110, 103]⟩ : ByteArray).toList == x.toList) = true) : kindV x = (4, 0) := by
  have n0 : (⟨#[110, 111, 110, 101]⟩ : ByteArray) ≠ x := (Lib.bytes_beq_false_iff _ _).1 e0
  have n1 : (⟨#[102, 111, 108, 108, 111, 119, 105, 110, 103]⟩ : ByteArray) ≠ x := (Lib.bytes_beq_false_iff _ _).1 e1
  have n2 : (⟨#[109, 111, 100, 102, 111, 108, 108, 111, 119, 105, 110, 103]⟩ : ByteArray) ≠ x := (Lib.bytes_beq_false_iff _ _).1 e2
  have n3 : (⟨#[112, 114, 101, 99, 101, 100, 105, 110, 103]⟩ : ByteArray) ≠ x := (Lib.bytes_beq_false_iff _ _).1 e3
  have y4 : (⟨#[109, 111, 100, 112, 114, 101, 99, 101, 100, 105, 110, 103]⟩ : ByteArray) = x := (Lib.bytes_beq_iff _ _).1 e4
  unfold kindV
  rw [if_neg n0, if_neg n1, if_neg n2, if_neg n3, if_pos y4]
theorem kindP_4 (x : ByteArray) (e0 : ((⟨#[110, 111, 110, 101]⟩ : ByteArray).toList == x.toList) = false) (e1 : ((⟨#[102, 111, 108, 108, 111, 119, 105, 110, 103]⟩ : ByteArray).toList == x.toList) = false) (e2 : ((⟨#[109, 111, 100, 102, 111, 108, 108, 111, 119, 105, 110, 103]⟩ : ByteArray).toList == x.toList) = false) (e3 : ((⟨#[112, 114, 101, 99, 101, 100, 105, 110, 103]⟩ : ByteArray).toList == x.toList) = false) (e4 : ((⟨#[109, 111, 100, 112, 114, 101, 99, 101, 100, 105, 110, 103]⟩ : ByteArray).toList == x.toList) = true) (w : World) (hN : Named w) : Calls Tryd.prog 26 #[.string x] w fun e w' => e = .returned (.tuple #[.int .i64 4, .int .i64 0]) ∧ w = w' := by
  have hi := Lib.hid (idx_4 x e0 e1 e2 e3 e4)
  clear e0 e1 e2 e3 e4
  go_enter Tryd.func26, Tryd.ntmps26
  go_wp2_with fail
  refine (nidx_c _ _ _ hN).mono ?_; rintro e w' ⟨rfl, rfl⟩
  rw [hi.out]
  go_wp2_with fail
  go_ret2
  exact ⟨rfl, rfl⟩
set_option maxHeartbeats 2000000 in
theorem kindR_4 (x : ByteArray) (e0 : ((⟨#[110, 111, 110, 101]⟩ : ByteArray).toList == x.toList) = false) (e1 : ((⟨#[102, 111, 108, 108, 111, 119, 105, 110, 103]⟩ : ByteArray).toList == x.toList) = false) (e2 : ((⟨#[109, 111, 100, 102, 111, 108, 108, 111, 119, 105, 110, 103]⟩ : ByteArray).toList == x.toList) = false) (e3 : ((⟨#[112, 114, 101, 99, 101, 100, 105, 110, 103]⟩ : ByteArray).toList == x.toList) = false) (e4 : ((⟨#[109, 111, 100, 112, 114, 101, 99, 101, 100, 105, 110, 103]⟩ : ByteArray).toList == x.toList) = true) (w : World) : Calls Tryd.prog 27 #[.string x] w fun e w' => e = .returned (.tuple #[.int .i64 4, .int .i64 0]) ∧ Below w.heap.size w w' := by
  have hB : Below w.heap.size w w := Below.refl _ _
  have f0 : (([110, 111, 110, 101] : List UInt8) == x.toList) = false := by rw [← (show (⟨#[110, 111, 110, 101]⟩ : ByteArray).toList = [110, 111, 110, 101] by rw [ByteArray.toList_eq])]; exact e0
  have f1 : (([102, 111, 108, 108, 111, 119, 105, 110, 103] : List UInt8) == x.toList) = false := by rw [← (show (⟨#[102, 111, 108, 108, 111, 119, 105, 110, 103]⟩ : ByteArray).toList = [102, 111, 108, 108, 111, 119, 105, 110, 103] by rw [ByteArray.toList_eq])]; exact e1
  have f2 : (([109, 111, 100, 102, 111, 108, 108, 111, 119, 105, 110, 103] : List UInt8) == x.toList) = false := by rw [← (show (⟨#[109, 111, 100, 102, 111, 108, 108, 111, 119, 105, 110, 103]⟩ : ByteArray).toList = [109, 111, 100, 102, 111, 108, 108, 111, 119, 105, 110, 103] by rw [ByteArray.toList_eq])]; exact e2
  have f3 : (([112, 114, 101, 99, 101, 100, 105, 110, 103] : List UInt8) == x.toList) = false := by rw [← (show (⟨#[112, 114, 101, 99, 101, 100, 105, 110, 103]⟩ : ByteArray).toList = [112, 114, 101, 99, 101, 100, 105, 110, 103] by rw [ByteArray.toList_eq])]; exact e3
  have f4 : (([109, 111, 100, 112, 114, 101, 99, 101, 100, 105, 110, 103] : List UInt8) == x.toList) = true := by rw [← (show (⟨#[109, 111, 100, 112, 114, 101, 99, 101, 100, 105, 110, 103]⟩ : ByteArray).toList = [109, 111, 100, 112, 114, 101, 99, 101, 100, 105, 110, 103] by rw [ByteArray.toList_eq])]; exact e4
  go_enter Tryd.func27, Tryd.ntmps27
  go_wp2_with fail
  refine wp_loop_rounds 5 ?_
  rw [rounds_succ]
  go_wp2_with fail
  refine (nameR_0 _).mono ?_; rintro e w1 ⟨rfl, hb1⟩
  have hz1 := hb1.size; (try simp at hz1); obtain ⟨hc1, hf1⟩ := bcell hb1; have hB1 := below_step (w := w) hb1 (by repeat (first | assumption | exact Below.refl _ _ | (with_reducible refine Below.drew ?_) | (with_reducible refine below_drewN' ?_ _) | (with_reducible refine below_al ?_) | ((with_reducible refine below_set ?_ ?_); rotate_left; focus (first | (simp; done) | (simp; omega)))))
  have le_w_w1 : w.heap.size ≤ w1.heap.size := by omega
  try have lt_w_w1 : w.heap.size < w1.heap.size := by omega
  go_wp2_with fail
  rw [rounds_succ]
  go_wp2_with fail
  refine (nameR_1 _).mono ?_; rintro e w2 ⟨rfl, hb2⟩
  have hz2 := hb2.size; (try simp at hz2); obtain ⟨hc2, hf2⟩ := bcell hb2; have hB2 := below_step (w := w) hb2 (by repeat (first | assumption | exact Below.refl _ _ | (with_reducible refine Below.drew ?_) | (with_reducible refine below_drewN' ?_ _) | (with_reducible refine below_al ?_) | ((with_reducible refine below_set ?_ ?_); rotate_left; focus (first | (simp; done) | (simp; omega)))))
  have le_w_w2 : w.heap.size ≤ w2.heap.size := by omega
  try have lt_w_w2 : w.heap.size < w2.heap.size := by omega
  have le_w1_w2 : w1.heap.size ≤ w2.heap.size := by omega
  try have lt_w1_w2 : w1.heap.size < w2.heap.size := by omega
  go_wp2_with fail
  rw [rounds_succ]
  go_wp2_with fail
  refine (nameR_2 _).mono ?_; rintro e w3 ⟨rfl, hb3⟩
  have hz3 := hb3.size; (try simp at hz3); obtain ⟨hc3, hf3⟩ := bcell hb3; have hB3 := below_step (w := w) hb3 (by repeat (first | assumption | exact Below.refl _ _ | (with_reducible refine Below.drew ?_) | (with_reducible refine below_drewN' ?_ _) | (with_reducible refine below_al ?_) | ((with_reducible refine below_set ?_ ?_); rotate_left; focus (first | (simp; done) | (simp; omega)))))
  have le_w_w3 : w.heap.size ≤ w3.heap.size := by omega
  try have lt_w_w3 : w.heap.size < w3.heap.size := by omega
  have le_w1_w3 : w1.heap.size ≤ w3.heap.size := by omega
  try have lt_w1_w3 : w1.heap.size < w3.heap.size := by omega
  have le_w2_w3 : w2.heap.size ≤ w3.heap.size := by omega
  try have lt_w2_w3 : w2.heap.size < w3.heap.size := by omega
  go_wp2_with fail
  rw [rounds_succ]
  go_wp2_with fail
  refine (nameR_3 _).mono ?_; rintro e w4 ⟨rfl, hb4⟩
  have hz4 := hb4.size; (try simp at hz4); obtain ⟨hc4, hf4⟩ := bcell hb4; have hB4 := below_step (w := w) hb4 (by repeat (first | assumption | exact Below.refl _ _ | (with_reducible refine Below.drew ?_) | (with_reducible refine below_drewN' ?_ _) | (with_reducible refine below_al ?_) | ((with_reducible refine below_set ?_ ?_); rotate_left; focus (first | (simp; done) | (simp; omega)))))
  have le_w_w4 : w.heap.size ≤ w4.heap.size := by omega
  try have lt_w_w4 : w.heap.size < w4.heap.size := by omega
  have le_w1_w4 : w1.heap.size ≤ w4.heap.size := by omega
  try have lt_w1_w4 : w1.heap.size < w4.heap.size := by omega
  have le_w2_w4 : w2.heap.size ≤ w4.heap.size := by omega
  try have lt_w2_w4 : w2.heap.size < w4.heap.size := by omega
  have le_w3_w4 : w3.heap.size ≤ w4.heap.size := by omega
  try have lt_w3_w4 : w3.heap.size < w4.heap.size := by omega
  go_wp2_with fail
  rw [rounds_succ]
  go_wp2_with fail
  refine (nameR_4 _).mono ?_; rintro e w5 ⟨rfl, hb5⟩
  have hz5 := hb5.size; (try simp at hz5); obtain ⟨hc5, hf5⟩ := bcell hb5; have hB5 := below_step (w := w) hb5 (by repeat (first | assumption | exact Below.refl _ _ | (with_reducible refine Below.drew ?_) | (with_reducible refine below_drewN' ?_ _) | (with_reducible refine below_al ?_) | ((with_reducible refine below_set ?_ ?_); rotate_left; focus (first | (simp; done) | (simp; omega)))))
  have le_w_w5 : w.heap.size ≤ w5.heap.size := by omega
  try have lt_w_w5 : w.heap.size < w5.heap.size := by omega
  have le_w1_w5 : w1.heap.size ≤ w5.heap.size := by omega
  try have lt_w1_w5 : w1.heap.size < w5.heap.size := by omega
  have le_w2_w5 : w2.heap.size ≤ w5.heap.size := by omega
  try have lt_w2_w5 : w2.heap.size < w5.heap.size := by omega
  have le_w3_w5 : w3.heap.size ≤ w5.heap.size := by omega
  try have lt_w3_w5 : w3.heap.size < w5.heap.size := by omega
  have le_w4_w5 : w4.heap.size ≤ w5.heap.size := by omega
  try have lt_w4_w5 : w4.heap.size < w5.heap.size := by omega
  go_wp2_with fail
  go_ret2
  exact ⟨rfl, by repeat (first | assumption | exact Below.refl _ _ | (with_reducible refine Below.drew ?_) | (with_reducible refine below_drewN' ?_ _) | (with_reducible refine below_al ?_) | ((with_reducible refine below_set ?_ ?_); rotate_left; focus (first | (simp; done) | (simp; omega))))⟩
theorem idx_5 (x : ByteArray) (e0 : ((⟨#[110, 111, 110, 101]⟩ : ByteArray).toList == x.toList) = false) (e1 : ((⟨#[102, 111, 108, 108, 111, 119, 105, 110, 103]⟩ : ByteArray).toList == x.toList) = false) (e2 : ((⟨#[109, 111, 100, 102, 111, 108, 108, 111, 119, 105, 110, 103]⟩ : ByteArray).toList == x.toList) = false) (e3 : ((⟨#[112, 114, 101, 99, 101, 100, 105, 110, 103]⟩ : ByteArray).toList == x.toList) = false) (e4 : ((⟨#[109, 111, 100, 112, 114, 101, 99, 101, 100, 105, 110, 103]⟩ : ByteArray).toList == x.toList) = false) : Lib.idxOfS nms x = -1 := by
  have n0 : (⟨#[110, 111, 110, 101]⟩ : ByteArray) ≠ x := (Lib.bytes_beq_false_iff _ _).1 e0
  have n1 : (⟨#[102, 111, 108, 108, 111, 119, 105, 110, 103]⟩ : ByteArray) ≠ x := (Lib.bytes_beq_false_iff _ _).1 e1
  have n2 : (⟨#[109, 111, 100, 102, 111, 108, 108, 111, 119, 105, 110, 103]⟩ : ByteArray) ≠ x := (Lib.bytes_beq_false_iff _ _).1 e2
  have n3 : (⟨#[112, 114, 101, 99, 101, 100, 105, 110, 103]⟩ : ByteArray) ≠ x := (Lib.bytes_beq_false_iff _ _).1 e3
  have n4 : (⟨#[109, 111, 100, 112, 114, 101, 99, 101, 100, 105, 110, 103]⟩ : ByteArray) ≠ x := (Lib.bytes_beq_false_iff _ _).1 e4
  unfold Lib.idxOfS nms
  rw [Lib.idxFromS, if_neg n0, Lib.idxFromS, if_neg n1, Lib.idxFromS, if_neg n2, Lib.idxFromS, if_neg n3, Lib.idxFromS, if_neg n4, Lib.idxFromS]
theorem kindV_5 (x : ByteArray) (e0 : ((⟨#[110, 111, 110, 101]⟩ : ByteArray).toList == x.toList) = false) (e1 : ((⟨#[102, 111, 108, 108, 111, 119, 105, 110, 103]⟩ : ByteArray).toList == x.toList) = false) (e2 : ((⟨#[109, 111, 100, 102, 111, 108, 108, 111, 119, 105, 110, 103]⟩ : ByteArray).toList == x.toList) = false) (e3 : ((⟨#[112, 114, 101, 99, 101, 100, 105, 110, 103]⟩ : ByteArray).toList == x.toList) = false) (e4 : ((⟨#[109, 111, 100, 112, 114, 101, 99, 101, 100, 105, 110, 103]⟩ : ByteArray).toList == x.toList) = false) : kindV x = (0, 10) := by
  have n0 : (⟨#[110, 111, 110, 101]⟩ : ByteArray) ≠ x := (Lib.bytes_beq_false_iff _ _).1 e0
  have n1 : (⟨#[102, 111, 108, 108, 111, 119, 105, 110, 103]⟩ : ByteArray) ≠ x := (Lib.bytes_beq_false_iff _ _).1 e1
  have n2 : (⟨#[109, 111, 100, 102, 111, 108, 108, 111, 119, 105, 110, 103]⟩ : ByteArray) ≠ x := (Lib.bytes_beq_false_iff _ _).1 e2
  have n3 : (⟨#[112, 114, 101, 99, 101, 100, 105, 110, 103]⟩ : ByteArray) ≠ x := (Lib.bytes_beq_false_iff _ _).1 e3
  have n4 : (⟨#[109, 111, 100, 112, 114, 101, 99, 101, 100, 105, 110, 103]⟩ : ByteArray) ≠ x := (Lib.bytes_beq_false_iff _ _).1 e4
  unfold kindV
  rw [if_neg n0, if_neg n1, if_neg n2, if_neg n3, if_neg n4]
theorem kindP_5 (x : ByteArray) (e0 : ((⟨#[110, 111, 110, 101]⟩ : ByteArray).toList == x.toList) = false) (e1 : ((⟨#[102, 111, 108, 108, 111, 119, 105, 110, 103]⟩ : ByteArray).toList == x.toList) = false) (e2 : ((⟨#[109, 111, 100, 102, 111, 108, 108, 111, 119, 105, 110, 103]⟩ : ByteArray).toList == x.toList) = false) (e3 : ((⟨#[112, 114, 101, 99, 101, 100, 105, 110, 103]⟩ : ByteArray).toList == x.toList) = false) (e4 : ((⟨#[109, 111, 100, 112, 114, 101, 99, 101, 100, 105, 110, 103]⟩ : ByteArray).toList == x.toList) = false) (w : World) (hN : Named w) : Calls Tryd.prog 26 #[.string x] w fun e w' => e = .returned (.tuple #[.int .i64 0, .int .i64 10]) ∧ w = w' := by
  have hi := Lib.hid (idx_5 x e0 e1 e2 e3 e4)
  clear e0 e1 e2 e3 e4
  go_enter Tryd.func26, Tryd.ntmps26
  go_wp2_with fail
  refine (nidx_c _ _ _ hN).mono ?_; rintro e w' ⟨rfl, rfl⟩
  rw [hi.out]
  go_wp2_with fail
  go_ret2
  exact ⟨rfl, rfl⟩
set_option maxHeartbeats 2000000 in
theorem kindR_5 (x : ByteArray) (e0 : ((⟨#[110, 111, 110, 101]⟩ : ByteArray).toList == x.toList) = false) (e1 : ((⟨#[102, 111, 108, 108, 111, 119, 105, 110, 103]⟩ : ByteArray).toList == x.toList) = false) (e2 : ((⟨#[109, 111, 100, 102, 111, 108, 108, 111, 119, 105, 110, 103]⟩ : ByteArray).toList == x.toList) = false) (e3 : ((⟨#[112, 114, 101, 99, 101, 100, 105, 110, 103]⟩ : ByteArray).toList == x.toList) = false) (e4 : ((⟨#[109, 111, 100, 112, 114, 101, 99, 101, 100, 105, 110, 103]⟩ : ByteArray).toList == x.toList) = false) (w : World) : Calls Tryd.prog 27 #[.string x] w fun e w' => e = .returned (.tuple #[.int .i64 0, .int .i64 10]) ∧ Below w.heap.size w w' := by
  have hB : Below w.heap.size w w := Below.refl _ _
  have f0 : (([110, 111, 110, 101] : List UInt8) == x.toList) = false := by rw [← (show (⟨#[110, 111, 110, 101]⟩ : ByteArray).toList = [110, 111, 110, 101] by rw [ByteArray.toList_eq])]; exact e0
  have f1 : (([102, 111, 108, 108, 111, 119, 105, 110, 103] : List UInt8) == x.toList) = false := by rw [← (show (⟨#[102, 111, 108, 108, 111, 119, 105, 110, 103]⟩ : ByteArray).toList = [102, 111, 108, 108, 111, 119, 105, 110, 103] by rw [ByteArray.toList_eq])]; exact e1
  have f2 : (([109, 111, 100, 102, 111, 108, 108, 111, 119, 105, 110, 103] : List UInt8) == x.toList) = false := by rw [← (show (⟨#[109, 111, 100, 102, 111, 108, 108, 111, 119, 105, 110, 103]⟩ : ByteArray).toList = [109, 111, 100, 102, 111, 108, 108, 111, 119, 105, 110, 103] by rw [ByteArray.toList_eq])]; exact e2
  have f3 : (([112, 114, 101, 99, 101, 100, 105, 110, 103] : List UInt8) == x.toList) = false := by rw [← (show (⟨#[112, 114, 101, 99, 101, 100, 105, 110, 103]⟩ : ByteArray).toList = [112, 114, 101, 99, 101, 100, 105, 110, 103] by rw [ByteArray.toList_eq])]; exact e3
  have f4 : (([109, 111, 100, 112, 114, 101, 99, 101, 100, 105, 110, 103] : List UInt8) == x.toList) = false := by rw [← (show (⟨#[109, 111, 100, 112, 114, 101, 99, 101, 100, 105, 110, 103]⟩ : ByteArray).toList = [109, 111, 100, 112, 114, 101, 99, 101, 100, 105, 110, 103] by rw [ByteArray.toList_eq])]; exact e4
  go_enter Tryd.func27, Tryd.ntmps27
  go_wp2_with fail
  refine wp_loop_rounds 6 ?_
  rw [rounds_succ]
  go_wp2_with fail
  refine (nameR_0 _).mono ?_; rintro e w1 ⟨rfl, hb1⟩
  have hz1 := hb1.size; (try simp at hz1); obtain ⟨hc1, hf1⟩ := bcell hb1; have hB1 := below_step (w := w) hb1 (by repeat (first | assumption | exact Below.refl _ _ | (with_reducible refine Below.drew ?_) | (with_reducible refine below_drewN' ?_ _) | (with_reducible refine below_al ?_) | ((with_reducible refine below_set ?_ ?_); rotate_left; focus (first | (simp; done) | (simp; omega)))))
  have le_w_w1 : w.heap.size ≤ w1.heap.size := by omega
  try have lt_w_w1 : w.heap.size < w1.heap.size := by omega
  go_wp2_with fail
  rw [rounds_succ]
  go_wp2_with fail
  refine (nameR_1 _).mono ?_; rintro e w2 ⟨rfl, hb2⟩
  have hz2 := hb2.size; (try simp at hz2); obtain ⟨hc2, hf2⟩ := bcell hb2; have hB2 := below_step (w := w) hb2 (by repeat (first | assumption | exact Below.refl _ _ | (with_reducible refine Below.drew ?_) | (with_reducible refine below_drewN' ?_ _) | (with_reducible refine below_al ?_) | ((with_reducible refine below_set ?_ ?_); rotate_left; focus (first | (simp; done) | (simp; omega)))))
  have le_w_w2 : w.heap.size ≤ w2.heap.size := by omega
  try have lt_w_w2 : w.heap.size < w2.heap.size := by omega
  have le_w1_w2 : w1.heap.size ≤ w2.heap.size := by omega
  try have lt_w1_w2 : w1.heap.size < w2.heap.size := by omega
  go_wp2_with fail
  rw [rounds_succ]
  go_wp2_with fail
  refine (nameR_2 _).mono ?_; rintro e w3 ⟨rfl, hb3⟩
  have hz3 := hb3.size; (try simp at hz3); obtain ⟨hc3, hf3⟩ := bcell hb3; have hB3 := below_step (w := w) hb3 (by repeat (first | assumption | exact Below.refl _ _ | (with_reducible refine Below.drew ?_) | (with_reducible refine below_drewN' ?_ _) | (with_reducible refine below_al ?_) | ((with_reducible refine below_set ?_ ?_); rotate_left; focus (first | (simp; done) | (simp; omega)))))
  have le_w_w3 : w.heap.size ≤ w3.heap.size := by omega
  try have lt_w_w3 : w.heap.size < w3.heap.size := by omega
  have le_w1_w3 : w1.heap.size ≤ w3.heap.size := by omega
  try have lt_w1_w3 : w1.heap.size < w3.heap.size := by omega
  have le_w2_w3 : w2.heap.size ≤ w3.heap.size := by omega
  try have lt_w2_w3 : w2.heap.size < w3.heap.size := by omega
  go_wp2_with fail
  rw [rounds_succ]
  go_wp2_with fail
  refine (nameR_3 _).mono ?_; rintro e w4 ⟨rfl, hb4⟩
  have hz4 := hb4.size; (try simp at hz4); obtain ⟨hc4, hf4⟩ := bcell hb4; have hB4 := below_step (w := w) hb4 (by repeat (first | assumption | exact Below.refl _ _ | (with_reducible refine Below.drew ?_) | (with_reducible refine below_drewN' ?_ _) | (with_reducible refine below_al ?_) | ((with_reducible refine below_set ?_ ?_); rotate_left; focus (first | (simp; done) | (simp; omega)))))
  have le_w_w4 : w.heap.size ≤ w4.heap.size := by omega
  try have lt_w_w4 : w.heap.size < w4.heap.size := by omega
  have le_w1_w4 : w1.heap.size ≤ w4.heap.size := by omega
  try have lt_w1_w4 : w1.heap.size < w4.heap.size := by omega
  have le_w2_w4 : w2.heap.size ≤ w4.heap.size := by omega
  try have lt_w2_w4 : w2.heap.size < w4.heap.size := by omega
  have le_w3_w4 : w3.heap.size ≤ w4.heap.size := by omega
  try have lt_w3_w4 : w3.heap.size < w4.heap.size := by omega
  go_wp2_with fail
  rw [rounds_succ]
  go_wp2_with fail
  refine (nameR_4 _).mono ?_; rintro e w5 ⟨rfl, hb5⟩
  have hz5 := hb5.size; (try simp at hz5); obtain ⟨hc5, hf5⟩ := bcell hb5; have hB5 := below_step (w := w) hb5 (by repeat (first | assumption | exact Below.refl _ _ | (with_reducible refine Below.drew ?_) | (with_reducible refine below_drewN' ?_ _) | (with_reducible refine below_al ?_) | ((with_reducible refine below_set ?_ ?_); rotate_left; focus (first | (simp; done) | (simp; omega)))))
  have le_w_w5 : w.heap.size ≤ w5.heap.size := by omega
  try have lt_w_w5 : w.heap.size < w5.heap.size := by omega
  have le_w1_w5 : w1.heap.size ≤ w5.heap.size := by omega
  try have lt_w1_w5 : w1.heap.size < w5.heap.size := by omega
  have le_w2_w5 : w2.heap.size ≤ w5.heap.size := by omega
  try have lt_w2_w5 : w2.heap.size < w5.heap.size := by omega
  have le_w3_w5 : w3.heap.size ≤ w5.heap.size := by omega
  try have lt_w3_w5 : w3.heap.size < w5.heap.size := by omega
  have le_w4_w5 : w4.heap.size ≤ w5.heap.size := by omega
  try have lt_w4_w5 : w4.heap.size < w5.heap.size := by omega
  go_wp2_with fail
  rw [rounds_succ]
  go_wp2_with fail
  go_ret2
  exact ⟨rfl, by repeat (first | assumption | exact Below.refl _ _ | (with_reducible refine Below.drew ?_) | (with_reducible refine below_drewN' ?_ _) | (with_reducible refine below_al ?_) | ((with_reducible refine below_set ?_ ?_); rotate_left; focus (first | (simp; done) | (simp; omega))))⟩
theorem kindP_any (x : ByteArray) (a b : Int) (hV : Hid (kindV x = (a, b))) (w : World) (hN : Named w) : Calls Tryd.prog 26 #[.string x] w fun e w' => e = .returned (.tuple #[.int .i64 a, .int .i64 b]) ∧ w = w' := by
  have h := hV.out
  cases e0 : ((⟨#[110, 111, 110, 101]⟩ : ByteArray).toList == x.toList)
  case true => rw [kindV_0 x e0] at h; cases h; exact kindP_0 x e0 w hN
  cases e1 : ((⟨#[102, 111, 108, 108, 111, 119, 105, 110, 103]⟩ : ByteArray).toList == x.toList)
  case true => rw [kindV_1 x e0 e1] at h; cases h; exact kindP_1 x e0 e1 w hN
  cases e2 : ((⟨#[109, 111, 100, 102, 111, 108, 108, 111, 119, 105, 110, 103]⟩ : ByteArray).toList == x.toList)
  case true => rw [kindV_2 x e0 e1 e2] at h; cases h; exact kindP_2 x e0 e1 e2 w hN
  cases e3 : ((⟨#[112, 114, 101, 99, 101, 100, 105, 110, 103]⟩ : ByteArray).toList == x.toList)
  case true => rw [kindV_3 x e0 e1 e2 e3] at h; cases h; exact kindP_3 x e0 e1 e2 e3 w hN
  cases e4 : ((⟨#[109, 111, 100, 112, 114, 101, 99, 101, 100, 105, 110, 103]⟩ : ByteArray).toList == x.toList)
  case true => rw [kindV_4 x e0 e1 e2 e3 e4] at h; cases h; exact kindP_4 x e0 e1 e2 e3 e4 w hN
  rw [kindV_5 x e0 e1 e2 e3 e4] at h; cases h; exact kindP_5 x e0 e1 e2 e3 e4 w hN
theorem kindR_any (x : ByteArray) (a b : Int) (hV : Hid (kindV x = (a, b))) (w : World) : Calls Tryd.prog 27 #[.string x] w fun e w' => e = .returned (.tuple #[.int .i64 a, .int .i64 b]) ∧ Below w.heap.size w w' := by
  have h := hV.out
  cases e0 : ((⟨#[110, 111, 110, 101]⟩ : ByteArray).toList == x.toList)
  case true => rw [kindV_0 x e0] at h; cases h; exact kindR_0 x e0 w
  cases e1 : ((⟨#[102, 111, 108, 108, 111, 119, 105, 110, 103]⟩ : ByteArray).toList == x.toList)
  case true => rw [kindV_1 x e0 e1] at h; cases h; exact kindR_1 x e0 e1 w
  cases e2 : ((⟨#[109, 111, 100, 102, 111, 108, 108, 111, 119, 105, 110, 103]⟩ : ByteArray).toList == x.toList)
  case true => rw [kindV_2 x e0 e1 e2] at h; cases h; exact kindR_2 x e0 e1 e2 w
  cases e3 : ((⟨#[112, 114, 101, 99, 101, 100, 105, 110, 103]⟩ : ByteArray).toList == x.toList)
  case true => rw [kindV_3 x e0 e1 e2 e3] at h; cases h; exact kindR_3 x e0 e1 e2 e3 w
  cases e4 : ((⟨#[109, 111, 100, 112, 114, 101, 99, 101, 100, 105, 110, 103]⟩ : ByteArray).toList == x.toList)
  case true => rw [kindV_4 x e0 e1 e2 e3 e4] at h; cases h; exact kindR_4 x e0 e1 e2 e3 e4 w
  rw [kindV_5 x e0 e1 e2 e3 e4] at h; cases h; exact kindR_5 x e0 e1 e2 e3 e4 w
end Go.Proofs.YtlilffoflkkbdaaDoor
