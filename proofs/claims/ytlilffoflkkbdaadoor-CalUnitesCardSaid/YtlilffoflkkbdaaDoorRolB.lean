/- The contracts of the rolls, the program's: on, back, and by each way. Conditions: the table of months' lengths lies as the program's text lays it; rules may be, and days rise. -/
import Derived.Test.YtlilffoflkkbdaaDoorRolA
import Derived.Deep.RegionHeld3
namespace Go.Proofs.YtlilffoflkkbdaaDoor
open Go.RowKit
set_option linter.unusedVariables false
def I64 (n : Int) : Prop := -9223372036854775808 ≤ n ∧ n ≤ 9223372036854775807
theorem sk_no (c : CalP) (s : Int) {n : Int} (h : n < 1 ∨ 3652059 < n) : sk c s 61 n = (0, 3) := sk_out (dayB_out h)
theorem from_up (c : CalP) (n : Int) (hn : I64 n) (hk : CalOk c) (a b : Int) (hR : Hid (sk c 1 61 n = (a, b))) (w : World) (hL : Laid w) (hc : CalIn w c) : Calls Tryd.prog 45 #[.agg #[.bool c.o0, .bool c.o1, .bool c.o2, .bool c.o3, .bool c.o4, .bool c.o5, .bool c.o6, .slice c.A c.rs.length c.cR, .slice c.D c.ds.length c.cD, .int .i64 1], .int .i64 n] w fun e w' => e = .returned (.tuple #[.int .i64 a, .int .i64 b]) ∧ Below w.heap.size w w' := by
  by_cases h : 1 ≤ n ∧ n ≤ 3652059
  · exact from_up_in c n h.1 h.2 hk a b hR w hL hc
  · have e := hR.out
    rw [sk_no c 1 (show n < 1 ∨ 3652059 < n by omega)] at e
    cases e
    exact from_up_out c n (show n < 1 ∨ 3652059 < n by omega) hn.1 hn.2 w hL
theorem next_c (c : CalP) (n : Int) (hn : I64 n) (hk : CalOk c) (a b : Int) (hR : Hid (sk c 1 61 n = (a, b))) (w : World) (hL : Laid w) (hc : CalIn w c) : Calls Tryd.prog 22 #[.agg #[.bool c.o0, .bool c.o1, .bool c.o2, .bool c.o3, .bool c.o4, .bool c.o5, .bool c.o6, .slice c.A c.rs.length c.cR, .slice c.D c.ds.length c.cD], .int .i64 n] w fun e w' => e = .returned (.tuple #[.int .i64 a, .int .i64 b]) ∧ Below w.heap.size w w' := by
  have hB : Below w.heap.size w w := Below.refl _ _
  have HN := Lib.hid hn; clear hn
  go_enter Tryd.func22, Tryd.ntmps22
  go_wp2_with fail
  refine (from_up c _ HN.out hk _ _ hR _ (hL.below (by repeat (first | assumption | exact Below.refl _ _ | (with_reducible refine Below.drew ?_) | (with_reducible refine below_drewN' ?_ _) | (with_reducible refine below_al ?_) | ((with_reducible refine below_set ?_ ?_); rotate_left; focus (first | (simp; done) | (simp; omega)))))) (hc.below (by repeat (first | assumption | exact Below.refl _ _ | (with_reducible refine Below.drew ?_) | (with_reducible refine below_drewN' ?_ _) | (with_reducible refine below_al ?_) | ((with_reducible refine below_set ?_ ?_); rotate_left; focus (first | (simp; done) | (simp; omega))))))).mono ?_; rintro e w1 ⟨rfl, hb1⟩
  have hz1 := hb1.size; (try simp at hz1); obtain ⟨hc1, hf1⟩ := bcell hb1; have hB1 := below_step (w := w) hb1 (by repeat (first | assumption | exact Below.refl _ _ | (with_reducible refine Below.drew ?_) | (with_reducible refine below_drewN' ?_ _) | (with_reducible refine below_al ?_) | ((with_reducible refine below_set ?_ ?_); rotate_left; focus (first | (simp; done) | (simp; omega)))))
  have le_w_w1 : w.heap.size ≤ w1.heap.size := by omega
  try have lt_w_w1 : w.heap.size < w1.heap.size := by omega
  go_wp2_with fail
  go_ret2
  exact ⟨rfl, by repeat (first | assumption | exact Below.refl _ _ | (with_reducible refine Below.drew ?_) | (with_reducible refine below_drewN' ?_ _) | (with_reducible refine below_al ?_) | ((with_reducible refine below_set ?_ ?_); rotate_left; focus (first | (simp; done) | (simp; omega))))⟩
theorem from_dn (c : CalP) (n : Int) (hn : I64 n) (hk : CalOk c) (a b : Int) (hR : Hid (sk c (-1) 61 n = (a, b))) (w : World) (hL : Laid w) (hc : CalIn w c) : Calls Tryd.prog 45 #[.agg #[.bool c.o0, .bool c.o1, .bool c.o2, .bool c.o3, .bool c.o4, .bool c.o5, .bool c.o6, .slice c.A c.rs.length c.cR, .slice c.D c.ds.length c.cD, .int .i64 (-1)], .int .i64 n] w fun e w' => e = .returned (.tuple #[.int .i64 a, .int .i64 b]) ∧ Below w.heap.size w w' := by
  by_cases h : 1 ≤ n ∧ n ≤ 3652059
  · exact from_dn_in c n h.1 h.2 hk a b hR w hL hc
  · have e := hR.out
    rw [sk_no c (-1) (show n < 1 ∨ 3652059 < n by omega)] at e
    cases e
    exact from_dn_out c n (show n < 1 ∨ 3652059 < n by omega) hn.1 hn.2 w hL
theorem prev_c (c : CalP) (n : Int) (hn : I64 n) (hk : CalOk c) (a b : Int) (hR : Hid (sk c (-1) 61 n = (a, b))) (w : World) (hL : Laid w) (hc : CalIn w c) : Calls Tryd.prog 24 #[.agg #[.bool c.o0, .bool c.o1, .bool c.o2, .bool c.o3, .bool c.o4, .bool c.o5, .bool c.o6, .slice c.A c.rs.length c.cR, .slice c.D c.ds.length c.cD], .int .i64 n] w fun e w' => e = .returned (.tuple #[.int .i64 a, .int .i64 b]) ∧ Below w.heap.size w w' := by
  have hB : Below w.heap.size w w := Below.refl _ _
  have HN := Lib.hid hn; clear hn
  go_enter Tryd.func24, Tryd.ntmps24
  go_wp2_with fail
  refine (from_dn c _ HN.out hk _ _ hR _ (hL.below (by repeat (first | assumption | exact Below.refl _ _ | (with_reducible refine Below.drew ?_) | (with_reducible refine below_drewN' ?_ _) | (with_reducible refine below_al ?_) | ((with_reducible refine below_set ?_ ?_); rotate_left; focus (first | (simp; done) | (simp; omega)))))) (hc.below (by repeat (first | assumption | exact Below.refl _ _ | (with_reducible refine Below.drew ?_) | (with_reducible refine below_drewN' ?_ _) | (with_reducible refine below_al ?_) | ((with_reducible refine below_set ?_ ?_); rotate_left; focus (first | (simp; done) | (simp; omega))))))).mono ?_; rintro e w1 ⟨rfl, hb1⟩
  have hz1 := hb1.size; (try simp at hz1); obtain ⟨hc1, hf1⟩ := bcell hb1; have hB1 := below_step (w := w) hb1 (by repeat (first | assumption | exact Below.refl _ _ | (with_reducible refine Below.drew ?_) | (with_reducible refine below_drewN' ?_ _) | (with_reducible refine below_al ?_) | ((with_reducible refine below_set ?_ ?_); rotate_left; focus (first | (simp; done) | (simp; omega)))))
  have le_w_w1 : w.heap.size ≤ w1.heap.size := by omega
  try have lt_w_w1 : w.heap.size < w1.heap.size := by omega
  go_wp2_with fail
  go_ret2
  exact ⟨rfl, by repeat (first | assumption | exact Below.refl _ _ | (with_reducible refine Below.drew ?_) | (with_reducible refine below_drewN' ?_ _) | (with_reducible refine below_al ?_) | ((with_reducible refine below_set ?_ ?_); rotate_left; focus (first | (simp; done) | (simp; omega))))⟩
theorem mth_c (n : Int) (w : World) (hL : Laid w) : Calls Tryd.prog 47 #[.int .i64 n] w fun e w' => e = .returned (.agg #[.int .i64 (ofY n), .int .i64 (ofM n), .int .i64 0]) ∧ Below w.heap.size w w' := by
  have hB : Below w.heap.size w w := Below.refl _ _
  go_enter Tryd.func47, Tryd.ntmps47
  go_wp2_with fail
  refine (of_c _ _ (hL.below (by repeat (first | assumption | exact Below.refl _ _ | (with_reducible refine Below.drew ?_) | (with_reducible refine below_drewN' ?_ _) | (with_reducible refine below_al ?_) | ((with_reducible refine below_set ?_ ?_); rotate_left; focus (first | (simp; done) | (simp; omega))))))).mono ?_; rintro e w1 ⟨rfl, hb1⟩
  have hz1 := hb1.size; (try simp at hz1); obtain ⟨hc1, hf1⟩ := bcell hb1; have hB1 := below_step (w := w) hb1 (by repeat (first | assumption | exact Below.refl _ _ | (with_reducible refine Below.drew ?_) | (with_reducible refine below_drewN' ?_ _) | (with_reducible refine below_al ?_) | ((with_reducible refine below_set ?_ ?_); rotate_left; focus (first | (simp; done) | (simp; omega)))))
  have le_w_w1 : w.heap.size ≤ w1.heap.size := by omega
  try have lt_w_w1 : w.heap.size < w1.heap.size := by omega
  go_wp2_with fail
  refine bodyPost_ret (v := .agg #[.int .i64 (ofY n), .int .i64 (ofM n), .int .i64 0]) (by simp [results, Tryd.results47, go_sem, hc1, lt_w_w1]) rfl ⟨rfl, ?_⟩
  repeat (first | assumption | exact Below.refl _ _ | (with_reducible refine Below.drew ?_) | (with_reducible refine below_drewN' ?_ _) | (with_reducible refine below_al ?_) | ((with_reducible refine below_set ?_ ?_); rotate_left; focus (first | (simp; done) | (simp; omega))))
end Go.Proofs.YtlilffoflkkbdaaDoor
