/- The contracts of how many days of business there are, the program's and the document's. Conditions: the table of months' lengths lies as the program's text lays it; rules may be, and days rise. -/
import Derived.Test.YtlilffoflkkbdaaDoorCalC
import Derived.IntWalk
namespace Go.Proofs.YtlilffoflkkbdaaDoor
open Go.RowKit
set_option linter.unusedVariables false
/-- How many of so many days from a day on are days of business. -/
def cnt (c : CalP) (a : Int) : Nat → Int
  | 0 => 0
  | k + 1 => cnt c a k + if c.is (a + k) = true then 1 else 0
theorem cnt_bd (c : CalP) (a : Int) : ∀ k : Nat, 0 ≤ cnt c a k ∧ cnt c a k ≤ k
  | 0 => ⟨Int.le_refl _, Int.le_refl _⟩
  | k + 1 => by
    have := cnt_bd c a k
    rw [cnt]; split <;> omega
theorem cnt_hit {c : CalP} {a : Int} {k : Nat} (h : c.is (a + k) = true) : cnt c a (k + 1) = cnt c a k + 1 := by rw [cnt, if_pos h]
theorem cnt_miss {c : CalP} {a : Int} {k : Nat} (h : c.is (a + k) = false) : cnt c a (k + 1) = cnt c a k := by rw [cnt, if_neg (by rw [h]; decide)]; omega
def many (c : CalP) (a b : Int) : Int × Int := if (dayB a && dayB b) = true then (if b < a then (0, 4) else if 4000 < b - a then (0, 2) else (cnt c a (b - a).toNat, 0)) else (0, 3)
theorem ret_pair' {a b c d : Int} (h : (a, b) = (c, d)) : Ending.returned (.tuple #[.int .i64 a, .int .i64 b]) = .returned (.tuple #[.int .i64 c, .int .i64 d]) := by
  cases h; rfl
set_option maxRecDepth 100000 in
set_option maxHeartbeats 4000000 in
theorem cmany_d1 (c : CalP) (a b : Int) (h1 : Hid (a < 1 ∨ 3652059 < a)) (hk : CalOk c) (w : World) (hL : Laid w) (hc : CalIn w c) : Calls Tryd.prog 39 #[.agg #[.bool c.o0, .bool c.o1, .bool c.o2, .bool c.o3, .bool c.o4, .bool c.o5, .bool c.o6, .slice c.A c.rs.length c.cR, .slice c.D c.ds.length c.cD], .int .i64 a, .int .i64 b] w fun e w' => e = .returned (.tuple #[.int .i64 0, .int .i64 3]) ∧ Below w.heap.size w w' := by
  have hB : Below w.heap.size w w := Below.refl _ _
  go_enter Tryd.func39, Tryd.ntmps39
  go_wp2_with fail
  refine (cday_out _ h1 _ (hL.below (by repeat (first | assumption | exact Below.refl _ _ | (with_reducible refine Below.drew ?_) | (with_reducible refine below_drewN' ?_ _) | (with_reducible refine below_al ?_) | ((with_reducible refine below_set ?_ ?_); rotate_left; focus (first | (simp; done) | (simp; omega))))))).mono ?_; rintro e w1 ⟨rfl, hb1⟩
  have hz1 := hb1.size; (try simp at hz1); obtain ⟨hc1, hf1⟩ := bcell hb1; have hB1 := below_step (w := w) hb1 (by repeat (first | assumption | exact Below.refl _ _ | (with_reducible refine Below.drew ?_) | (with_reducible refine below_drewN' ?_ _) | (with_reducible refine below_al ?_) | ((with_reducible refine below_set ?_ ?_); rotate_left; focus (first | (simp; done) | (simp; omega)))))
  have le_w_w1 : w.heap.size ≤ w1.heap.size := by omega
  try have lt_w_w1 : w.heap.size < w1.heap.size := by omega
  go_wp2_with fail
  go_ret2
  exact ⟨rfl, by repeat (first | assumption | exact Below.refl _ _ | (with_reducible refine Below.drew ?_) | (with_reducible refine below_drewN' ?_ _) | (with_reducible refine below_al ?_) | ((with_reducible refine below_set ?_ ?_); rotate_left; focus (first | (simp; done) | (simp; omega))))⟩
set_option maxRecDepth 100000 in
set_option maxHeartbeats 4000000 in
theorem cmany_d2 (c : CalP) (a b : Int) (a1 : 1 ≤ a) (a2 : a ≤ 3652059) (h2 : Hid (b < 1 ∨ 3652059 < b)) (hk : CalOk c) (w : World) (hL : Laid w) (hc : CalIn w c) : Calls Tryd.prog 39 #[.agg #[.bool c.o0, .bool c.o1, .bool c.o2, .bool c.o3, .bool c.o4, .bool c.o5, .bool c.o6, .slice c.A c.rs.length c.cR, .slice c.D c.ds.length c.cD], .int .i64 a, .int .i64 b] w fun e w' => e = .returned (.tuple #[.int .i64 0, .int .i64 3]) ∧ Below w.heap.size w w' := by
  have hB : Below w.heap.size w w := Below.refl _ _
  go_enter Tryd.func39, Tryd.ntmps39
  go_wp2_with fail
  refine (cday_in _ a1 a2 _ (hL.below (by repeat (first | assumption | exact Below.refl _ _ | (with_reducible refine Below.drew ?_) | (with_reducible refine below_drewN' ?_ _) | (with_reducible refine below_al ?_) | ((with_reducible refine below_set ?_ ?_); rotate_left; focus (first | (simp; done) | (simp; omega))))))).mono ?_; rintro e w1 ⟨rfl, hb1⟩
  have hz1 := hb1.size; (try simp at hz1); obtain ⟨hc1, hf1⟩ := bcell hb1; have hB1 := below_step (w := w) hb1 (by repeat (first | assumption | exact Below.refl _ _ | (with_reducible refine Below.drew ?_) | (with_reducible refine below_drewN' ?_ _) | (with_reducible refine below_al ?_) | ((with_reducible refine below_set ?_ ?_); rotate_left; focus (first | (simp; done) | (simp; omega)))))
  have le_w_w1 : w.heap.size ≤ w1.heap.size := by omega
  try have lt_w_w1 : w.heap.size < w1.heap.size := by omega
  go_wp2_with fail
  refine (cday_out _ h2 _ (hL.below (by repeat (first | assumption | exact Below.refl _ _ | (with_reducible refine Below.drew ?_) | (with_reducible refine below_drewN' ?_ _) | (with_reducible refine below_al ?_) | ((with_reducible refine below_set ?_ ?_); rotate_left; focus (first | (simp; done) | (simp; omega))))))).mono ?_; rintro e w2 ⟨rfl, hb2⟩
  have hz2 := hb2.size; (try simp at hz2); obtain ⟨hc2, hf2⟩ := bcell hb2; have hB2 := below_step (w := w) hb2 (by repeat (first | assumption | exact Below.refl _ _ | (with_reducible refine Below.drew ?_) | (with_reducible refine below_drewN' ?_ _) | (with_reducible refine below_al ?_) | ((with_reducible refine below_set ?_ ?_); rotate_left; focus (first | (simp; done) | (simp; omega)))))
  have le_w_w2 : w.heap.size ≤ w2.heap.size := by omega
  try have lt_w_w2 : w.heap.size < w2.heap.size := by omega
  have le_w1_w2 : w1.heap.size ≤ w2.heap.size := by omega
  try have lt_w1_w2 : w1.heap.size < w2.heap.size := by omega
  go_wp2_with fail
  go_ret2
  exact ⟨rfl, by repeat (first | assumption | exact Below.refl _ _ | (with_reducible refine Below.drew ?_) | (with_reducible refine below_drewN' ?_ _) | (with_reducible refine below_al ?_) | ((with_reducible refine below_set ?_ ?_); rotate_left; focus (first | (simp; done) | (simp; omega))))⟩
set_option maxRecDepth 100000 in
set_option maxHeartbeats 4000000 in
theorem cmany_ord (c : CalP) (a b : Int) (a1 : 1 ≤ a) (a2 : a ≤ 3652059) (b1 : 1 ≤ b) (b2 : b ≤ 3652059) (h : b < a) (hk : CalOk c) (w : World) (hL : Laid w) (hc : CalIn w c) : Calls Tryd.prog 39 #[.agg #[.bool c.o0, .bool c.o1, .bool c.o2, .bool c.o3, .bool c.o4, .bool c.o5, .bool c.o6, .slice c.A c.rs.length c.cR, .slice c.D c.ds.length c.cD], .int .i64 a, .int .i64 b] w fun e w' => e = .returned (.tuple #[.int .i64 0, .int .i64 4]) ∧ Below w.heap.size w w' := by
  have g1 : decide (b < a) = true := decide_eq_true (by omega)
  have hB : Below w.heap.size w w := Below.refl _ _
  go_enter Tryd.func39, Tryd.ntmps39
  go_wp2_with fail
  refine (cday_in _ a1 a2 _ (hL.below (by repeat (first | assumption | exact Below.refl _ _ | (with_reducible refine Below.drew ?_) | (with_reducible refine below_drewN' ?_ _) | (with_reducible refine below_al ?_) | ((with_reducible refine below_set ?_ ?_); rotate_left; focus (first | (simp; done) | (simp; omega))))))).mono ?_; rintro e w1 ⟨rfl, hb1⟩
  have hz1 := hb1.size; (try simp at hz1); obtain ⟨hc1, hf1⟩ := bcell hb1; have hB1 := below_step (w := w) hb1 (by repeat (first | assumption | exact Below.refl _ _ | (with_reducible refine Below.drew ?_) | (with_reducible refine below_drewN' ?_ _) | (with_reducible refine below_al ?_) | ((with_reducible refine below_set ?_ ?_); rotate_left; focus (first | (simp; done) | (simp; omega)))))
  have le_w_w1 : w.heap.size ≤ w1.heap.size := by omega
  try have lt_w_w1 : w.heap.size < w1.heap.size := by omega
  go_wp2_with fail
  refine (cday_in _ b1 b2 _ (hL.below (by repeat (first | assumption | exact Below.refl _ _ | (with_reducible refine Below.drew ?_) | (with_reducible refine below_drewN' ?_ _) | (with_reducible refine below_al ?_) | ((with_reducible refine below_set ?_ ?_); rotate_left; focus (first | (simp; done) | (simp; omega))))))).mono ?_; rintro e w2 ⟨rfl, hb2⟩
  have hz2 := hb2.size; (try simp at hz2); obtain ⟨hc2, hf2⟩ := bcell hb2; have hB2 := below_step (w := w) hb2 (by repeat (first | assumption | exact Below.refl _ _ | (with_reducible refine Below.drew ?_) | (with_reducible refine below_drewN' ?_ _) | (with_reducible refine below_al ?_) | ((with_reducible refine below_set ?_ ?_); rotate_left; focus (first | (simp; done) | (simp; omega)))))
  have le_w_w2 : w.heap.size ≤ w2.heap.size := by omega
  try have lt_w_w2 : w.heap.size < w2.heap.size := by omega
  have le_w1_w2 : w1.heap.size ≤ w2.heap.size := by omega
  try have lt_w1_w2 : w1.heap.size < w2.heap.size := by omega
  go_wp2_with fail
  go_ret2
  exact ⟨rfl, by repeat (first | assumption | exact Below.refl _ _ | (with_reducible refine Below.drew ?_) | (with_reducible refine below_drewN' ?_ _) | (with_reducible refine below_al ?_) | ((with_reducible refine below_set ?_ ?_); rotate_left; focus (first | (simp; done) | (simp; omega))))⟩
set_option maxRecDepth 100000 in
set_option maxHeartbeats 4000000 in
theorem cmany_bnd (c : CalP) (a b : Int) (a1 : 1 ≤ a) (a2 : a ≤ 3652059) (b1 : 1 ≤ b) (b2 : b ≤ 3652059) (h : a ≤ b) (h2 : 4000 < b - a) (hk : CalOk c) (w : World) (hL : Laid w) (hc : CalIn w c) : Calls Tryd.prog 39 #[.agg #[.bool c.o0, .bool c.o1, .bool c.o2, .bool c.o3, .bool c.o4, .bool c.o5, .bool c.o6, .slice c.A c.rs.length c.cR, .slice c.D c.ds.length c.cD], .int .i64 a, .int .i64 b] w fun e w' => e = .returned (.tuple #[.int .i64 0, .int .i64 2]) ∧ Below w.heap.size w w' := by
  have g1 : decide (b < a) = false := decide_eq_false (by omega)
  have s1 : IntKind.i64.wrap (b - a) = b - a := IntWalk.i64_in _ (by omega)
  have g2 : decide (4000 < b - a) = true := decide_eq_true (by omega)
  have hB : Below w.heap.size w w := Below.refl _ _
  go_enter Tryd.func39, Tryd.ntmps39
  go_wp2_with fail
  refine (cday_in _ a1 a2 _ (hL.below (by repeat (first | assumption | exact Below.refl _ _ | (with_reducible refine Below.drew ?_) | (with_reducible refine below_drewN' ?_ _) | (with_reducible refine below_al ?_) | ((with_reducible refine below_set ?_ ?_); rotate_left; focus (first | (simp; done) | (simp; omega))))))).mono ?_; rintro e w1 ⟨rfl, hb1⟩
  have hz1 := hb1.size; (try simp at hz1); obtain ⟨hc1, hf1⟩ := bcell hb1; have hB1 := below_step (w := w) hb1 (by repeat (first | assumption | exact Below.refl _ _ | (with_reducible refine Below.drew ?_) | (with_reducible refine below_drewN' ?_ _) | (with_reducible refine below_al ?_) | ((with_reducible refine below_set ?_ ?_); rotate_left; focus (first | (simp; done) | (simp; omega)))))
  have le_w_w1 : w.heap.size ≤ w1.heap.size := by omega
  try have lt_w_w1 : w.heap.size < w1.heap.size := by omega
  go_wp2_with fail
  refine (cday_in _ b1 b2 _ (hL.below (by repeat (first | assumption | exact Below.refl _ _ | (with_reducible refine Below.drew ?_) | (with_reducible refine below_drewN' ?_ _) | (with_reducible refine below_al ?_) | ((with_reducible refine below_set ?_ ?_); rotate_left; focus (first | (simp; done) | (simp; omega))))))).mono ?_; rintro e w2 ⟨rfl, hb2⟩
  have hz2 := hb2.size; (try simp at hz2); obtain ⟨hc2, hf2⟩ := bcell hb2; have hB2 := below_step (w := w) hb2 (by repeat (first | assumption | exact Below.refl _ _ | (with_reducible refine Below.drew ?_) | (with_reducible refine below_drewN' ?_ _) | (with_reducible refine below_al ?_) | ((with_reducible refine below_set ?_ ?_); rotate_left; focus (first | (simp; done) | (simp; omega)))))
  have le_w_w2 : w.heap.size ≤ w2.heap.size := by omega
  try have lt_w_w2 : w.heap.size < w2.heap.size := by omega
  have le_w1_w2 : w1.heap.size ≤ w2.heap.size := by omega
  try have lt_w1_w2 : w1.heap.size < w2.heap.size := by omega
  go_wp2_with fail
  go_ret2
  exact ⟨rfl, by repeat (first | assumption | exact Below.refl _ _ | (with_reducible refine Below.drew ?_) | (with_reducible refine below_drewN' ?_ _) | (with_reducible refine below_al ?_) | ((with_reducible refine below_set ?_ ?_); rotate_left; focus (first | (simp; done) | (simp; omega))))⟩
set_option maxRecDepth 100000 in
set_option maxHeartbeats 4000000 in
theorem cmany_in (c : CalP) (a b : Int) (a1 : 1 ≤ a) (a2 : a ≤ 3652059) (b1 : 1 ≤ b) (b2 : b ≤ 3652059) (h : a ≤ b) (h2 : b - a ≤ 4000) (hk : CalOk c) (w : World) (hL : Laid w) (hc : CalIn w c) : Calls Tryd.prog 39 #[.agg #[.bool c.o0, .bool c.o1, .bool c.o2, .bool c.o3, .bool c.o4, .bool c.o5, .bool c.o6, .slice c.A c.rs.length c.cR, .slice c.D c.ds.length c.cD], .int .i64 a, .int .i64 b] w fun e w' => e = .returned (.tuple #[.int .i64 (cnt c a (b - a).toNat), .int .i64 0]) ∧ Below w.heap.size w w' := by
  have g1 : decide (b < a) = false := decide_eq_false (by omega)
  have s1 : IntKind.i64.wrap (b - a) = b - a := IntWalk.i64_in _ (by omega)
  have g2 : decide (4000 < b - a) = false := decide_eq_false (by omega)
  have hB : Below w.heap.size w w := Below.refl _ _
  go_enter Tryd.func39, Tryd.ntmps39
  go_wp2_with fail
  refine (cday_in _ a1 a2 _ (hL.below (by repeat (first | assumption | exact Below.refl _ _ | (with_reducible refine Below.drew ?_) | (with_reducible refine below_drewN' ?_ _) | (with_reducible refine below_al ?_) | ((with_reducible refine below_set ?_ ?_); rotate_left; focus (first | (simp; done) | (simp; omega))))))).mono ?_; rintro e w1 ⟨rfl, hb1⟩
  have hz1 := hb1.size; (try simp at hz1); obtain ⟨hc1, hf1⟩ := bcell hb1; have hB1 := below_step (w := w) hb1 (by repeat (first | assumption | exact Below.refl _ _ | (with_reducible refine Below.drew ?_) | (with_reducible refine below_drewN' ?_ _) | (with_reducible refine below_al ?_) | ((with_reducible refine below_set ?_ ?_); rotate_left; focus (first | (simp; done) | (simp; omega)))))
  have le_w_w1 : w.heap.size ≤ w1.heap.size := by omega
  try have lt_w_w1 : w.heap.size < w1.heap.size := by omega
  go_wp2_with fail
  refine (cday_in _ b1 b2 _ (hL.below (by repeat (first | assumption | exact Below.refl _ _ | (with_reducible refine Below.drew ?_) | (with_reducible refine below_drewN' ?_ _) | (with_reducible refine below_al ?_) | ((with_reducible refine below_set ?_ ?_); rotate_left; focus (first | (simp; done) | (simp; omega))))))).mono ?_; rintro e w2 ⟨rfl, hb2⟩
  have hz2 := hb2.size; (try simp at hz2); obtain ⟨hc2, hf2⟩ := bcell hb2; have hB2 := below_step (w := w) hb2 (by repeat (first | assumption | exact Below.refl _ _ | (with_reducible refine Below.drew ?_) | (with_reducible refine below_drewN' ?_ _) | (with_reducible refine below_al ?_) | ((with_reducible refine below_set ?_ ?_); rotate_left; focus (first | (simp; done) | (simp; omega)))))
  have le_w_w2 : w.heap.size ≤ w2.heap.size := by omega
  try have lt_w_w2 : w.heap.size < w2.heap.size := by omega
  have le_w1_w2 : w1.heap.size ≤ w2.heap.size := by omega
  try have lt_w1_w2 : w1.heap.size < w2.heap.size := by omega
  go_wp2_with fail
  have HB0 : Hid (Below w2.heap.size w2 w2) := Lib.hid (Below.refl _ _)
  go_loopw [8, 9] (fun n i wr => ∃ k : Nat, (k : Int) ≤ b - a ∧ i = .int .i64 (a + k) ∧ n = .int .i64 (cnt c a k) ∧ Hid (Below w2.heap.size w2 wr)) (fun _ i _ => (b - intOf i).toNat)
  case atStart => exact ⟨0, by omega, by simp, rfl, HB0⟩
  case round =>
    obtain ⟨k, hkk, rfl, rfl, hbr⟩ := hrel
    clear HB0
    obtain ⟨hcwr, hfwr⟩ := bcell hbr.out
    have hzwr := hbr.out.size; (try simp at hzwr)
    have hBwr : Below w.heap.size w wr := below_step (w := w) hbr.out hB2
    have le_w_wr : w.heap.size ≤ wr.heap.size := by omega
    try have lt_w_wr : w.heap.size < wr.heap.size := by omega
    have le_w1_wr : w1.heap.size ≤ wr.heap.size := by omega
    try have lt_w1_wr : w1.heap.size < wr.heap.size := by omega
    have le_w2_wr : w2.heap.size ≤ wr.heap.size := by omega
    try have lt_w2_wr : w2.heap.size < wr.heap.size := by omega
    have hcb := cnt_bd c a k
    by_cases hlt : a + (k : Int) < b
    · have hd := decide_eq_true hlt
      have hw1 : IntKind.i64.wrap (a + (k : Int) + 1) = a + (k : Int) + 1 := IntWalk.i64_in _ (by omega)
      have hcb2 : cnt c a k ≤ 4000 := by omega
      cases hi : c.is (a + (k : Int))
      · have HI := Lib.hid hi; clear hi
        generalize hm : cnt c a k = m at *
        have HM := Lib.hid hm; clear hm
        go_wp2_with fail
        refine (calIs_c c _ hk _ (hL.below (by repeat (first | assumption | exact Below.refl _ _ | (with_reducible refine Below.drew ?_) | (with_reducible refine below_drewN' ?_ _) | (with_reducible refine below_al ?_) | ((with_reducible refine below_set ?_ ?_); rotate_left; focus (first | (simp; done) | (simp; omega)))))) (hc.below (by repeat (first | assumption | exact Below.refl _ _ | (with_reducible refine Below.drew ?_) | (with_reducible refine below_drewN' ?_ _) | (with_reducible refine below_al ?_) | ((with_reducible refine below_set ?_ ?_); rotate_left; focus (first | (simp; done) | (simp; omega))))))).mono ?_; rintro e wq ⟨rfl, hbq⟩
        rw [HI.out]
        have hnx : Hid (Below w2.heap.size w2 wq) := Lib.hid (hbr.out.trans (hbq.mono hbr.out.size))
        go_wp2_with fail
        go_roundw
        case rel => exact ⟨k + 1, by omega, by go_num, by rw [cnt_miss HI.out, HM.out], hnx⟩
        case measure => simp [intOf]; omega
      · have HI := Lib.hid hi; clear hi
        generalize hm : cnt c a k = m at *
        have HM := Lib.hid hm; clear hm
        go_wp2_with fail
        refine (calIs_c c _ hk _ (hL.below (by repeat (first | assumption | exact Below.refl _ _ | (with_reducible refine Below.drew ?_) | (with_reducible refine below_drewN' ?_ _) | (with_reducible refine below_al ?_) | ((with_reducible refine below_set ?_ ?_); rotate_left; focus (first | (simp; done) | (simp; omega)))))) (hc.below (by repeat (first | assumption | exact Below.refl _ _ | (with_reducible refine Below.drew ?_) | (with_reducible refine below_drewN' ?_ _) | (with_reducible refine below_al ?_) | ((with_reducible refine below_set ?_ ?_); rotate_left; focus (first | (simp; done) | (simp; omega))))))).mono ?_; rintro e wq ⟨rfl, hbq⟩
        rw [HI.out]
        have hnx : Hid (Below w2.heap.size w2 wq) := Lib.hid (hbr.out.trans (hbq.mono hbr.out.size))
        go_wp2_with fail
        go_roundw
        case rel => exact ⟨k + 1, by omega, by go_num, by rw [cnt_hit HI.out, HM.out], hnx⟩
        case measure => simp [intOf]; omega
    · have hd := decide_eq_false hlt
      have hke : k = (b - a).toNat := by omega
      clear hlt
      subst hke
      go_wp2_with fail
      go_ret2
      exact ⟨rfl, by repeat (first | assumption | exact Below.refl _ _ | (with_reducible refine Below.drew ?_) | (with_reducible refine below_drewN' ?_ _) | (with_reducible refine below_al ?_) | ((with_reducible refine below_set ?_ ?_); rotate_left; focus (first | (simp; done) | (simp; omega))))⟩
set_option maxRecDepth 100000 in
set_option maxHeartbeats 4000000 in
theorem rmany_d1 (c : CalP) (a b : Int) (da : dayB a = false) (Vb : Bool) (db : Hid (dayB b = Vb)) (hk : CalOk c) (w : World) (hL : Laid w) (hc : CalIn w c) : Calls Tryd.prog 40 #[.agg #[.bool c.o0, .bool c.o1, .bool c.o2, .bool c.o3, .bool c.o4, .bool c.o5, .bool c.o6, .slice c.A c.rs.length c.cR, .slice c.D c.ds.length c.cD], .int .i64 a, .int .i64 b] w fun e w' => e = .returned (.tuple #[.int .i64 0, .int .i64 3]) ∧ Below w.heap.size w w' := by
  have hB : Below w.heap.size w w := Below.refl _ _
  go_enter Tryd.func40, Tryd.ntmps40
  go_wp2_with fail
  refine (rday_c _ _).mono ?_; rintro e w' ⟨rfl, rfl⟩
  go_wp2_with fail
  refine (rday_c _ _).mono ?_; rintro e w' ⟨rfl, rfl⟩
  rw [db.out]
  go_wp2_with fail
  go_ret2
  exact ⟨rfl, by repeat (first | assumption | exact Below.refl _ _ | (with_reducible refine Below.drew ?_) | (with_reducible refine below_drewN' ?_ _) | (with_reducible refine below_al ?_) | ((with_reducible refine below_set ?_ ?_); rotate_left; focus (first | (simp; done) | (simp; omega))))⟩
set_option maxRecDepth 100000 in
set_option maxHeartbeats 4000000 in
theorem rmany_d2 (c : CalP) (a b : Int) (da : dayB a = true) (db : dayB b = false) (hk : CalOk c) (w : World) (hL : Laid w) (hc : CalIn w c) : Calls Tryd.prog 40 #[.agg #[.bool c.o0, .bool c.o1, .bool c.o2, .bool c.o3, .bool c.o4, .bool c.o5, .bool c.o6, .slice c.A c.rs.length c.cR, .slice c.D c.ds.length c.cD], .int .i64 a, .int .i64 b] w fun e w' => e = .returned (.tuple #[.int .i64 0, .int .i64 3]) ∧ Below w.heap.size w w' := by
  have hB : Below w.heap.size w w := Below.refl _ _
  go_enter Tryd.func40, Tryd.ntmps40
  go_wp2_with fail
  refine (rday_c _ _).mono ?_; rintro e w' ⟨rfl, rfl⟩
  go_wp2_with fail
  refine (rday_c _ _).mono ?_; rintro e w' ⟨rfl, rfl⟩
  go_wp2_with fail
  go_ret2
  exact ⟨rfl, by repeat (first | assumption | exact Below.refl _ _ | (with_reducible refine Below.drew ?_) | (with_reducible refine below_drewN' ?_ _) | (with_reducible refine below_al ?_) | ((with_reducible refine below_set ?_ ?_); rotate_left; focus (first | (simp; done) | (simp; omega))))⟩
set_option maxRecDepth 100000 in
set_option maxHeartbeats 4000000 in
theorem rmany_ord (c : CalP) (a b : Int) (a1 : 1 ≤ a) (a2 : a ≤ 3652059) (b1 : 1 ≤ b) (b2 : b ≤ 3652059) (h : b < a) (hk : CalOk c) (w : World) (hL : Laid w) (hc : CalIn w c) : Calls Tryd.prog 40 #[.agg #[.bool c.o0, .bool c.o1, .bool c.o2, .bool c.o3, .bool c.o4, .bool c.o5, .bool c.o6, .slice c.A c.rs.length c.cR, .slice c.D c.ds.length c.cD], .int .i64 a, .int .i64 b] w fun e w' => e = .returned (.tuple #[.int .i64 0, .int .i64 4]) ∧ Below w.heap.size w w' := by
  have da : dayB a = true := dayB_in a1 a2
  have db : dayB b = true := dayB_in b1 b2
  have g1 : decide (b < a) = true := decide_eq_true (by omega)
  have hB : Below w.heap.size w w := Below.refl _ _
  go_enter Tryd.func40, Tryd.ntmps40
  go_wp2_with fail
  refine (rday_c _ _).mono ?_; rintro e w' ⟨rfl, rfl⟩
  go_wp2_with fail
  refine (rday_c _ _).mono ?_; rintro e w' ⟨rfl, rfl⟩
  go_wp2_with fail
  go_ret2
  exact ⟨rfl, by repeat (first | assumption | exact Below.refl _ _ | (with_reducible refine Below.drew ?_) | (with_reducible refine below_drewN' ?_ _) | (with_reducible refine below_al ?_) | ((with_reducible refine below_set ?_ ?_); rotate_left; focus (first | (simp; done) | (simp; omega))))⟩
set_option maxRecDepth 100000 in
set_option maxHeartbeats 4000000 in
theorem rmany_bnd (c : CalP) (a b : Int) (a1 : 1 ≤ a) (a2 : a ≤ 3652059) (b1 : 1 ≤ b) (b2 : b ≤ 3652059) (h : a ≤ b) (h2 : 4000 < b - a) (hk : CalOk c) (w : World) (hL : Laid w) (hc : CalIn w c) : Calls Tryd.prog 40 #[.agg #[.bool c.o0, .bool c.o1, .bool c.o2, .bool c.o3, .bool c.o4, .bool c.o5, .bool c.o6, .slice c.A c.rs.length c.cR, .slice c.D c.ds.length c.cD], .int .i64 a, .int .i64 b] w fun e w' => e = .returned (.tuple #[.int .i64 0, .int .i64 2]) ∧ Below w.heap.size w w' := by
  have da : dayB a = true := dayB_in a1 a2
  have db : dayB b = true := dayB_in b1 b2
  have g1 : decide (b < a) = false := decide_eq_false (by omega)
  have s1 : IntKind.i64.wrap (b - a) = b - a := IntWalk.i64_in _ (by omega)
  have g2 : decide (4000 < b - a) = true := decide_eq_true (by omega)
  have hB : Below w.heap.size w w := Below.refl _ _
  go_enter Tryd.func40, Tryd.ntmps40
  go_wp2_with fail
  refine (rday_c _ _).mono ?_; rintro e w' ⟨rfl, rfl⟩
  go_wp2_with fail
  refine (rday_c _ _).mono ?_; rintro e w' ⟨rfl, rfl⟩
  go_wp2_with fail
  go_ret2
  exact ⟨rfl, by repeat (first | assumption | exact Below.refl _ _ | (with_reducible refine Below.drew ?_) | (with_reducible refine below_drewN' ?_ _) | (with_reducible refine below_al ?_) | ((with_reducible refine below_set ?_ ?_); rotate_left; focus (first | (simp; done) | (simp; omega))))⟩
set_option maxRecDepth 100000 in
set_option maxHeartbeats 4000000 in
theorem rmany_in (c : CalP) (a b : Int) (a1 : 1 ≤ a) (a2 : a ≤ 3652059) (b1 : 1 ≤ b) (b2 : b ≤ 3652059) (h : a ≤ b) (h2 : b - a ≤ 4000) (hk : CalOk c) (w : World) (hL : Laid w) (hc : CalIn w c) : Calls Tryd.prog 40 #[.agg #[.bool c.o0, .bool c.o1, .bool c.o2, .bool c.o3, .bool c.o4, .bool c.o5, .bool c.o6, .slice c.A c.rs.length c.cR, .slice c.D c.ds.length c.cD], .int .i64 a, .int .i64 b] w fun e w' => e = .returned (.tuple #[.int .i64 (cnt c a (b - a).toNat), .int .i64 0]) ∧ Below w.heap.size w w' := by
  have da : dayB a = true := dayB_in a1 a2
  have db : dayB b = true := dayB_in b1 b2
  have g1 : decide (b < a) = false := decide_eq_false (by omega)
  have s1 : IntKind.i64.wrap (b - a) = b - a := IntWalk.i64_in _ (by omega)
  have g2 : decide (4000 < b - a) = false := decide_eq_false (by omega)
  have hB : Below w.heap.size w w := Below.refl _ _
  go_enter Tryd.func40, Tryd.ntmps40
  go_wp2_with fail
  refine (rday_c _ _).mono ?_; rintro e w' ⟨rfl, rfl⟩
  go_wp2_with fail
  refine (rday_c _ _).mono ?_; rintro e w' ⟨rfl, rfl⟩
  go_wp2_with fail
  have HB0 : Hid (Below (w.alloc (.cells #[.bool c.o0, .bool c.o1, .bool c.o2, .bool c.o3, .bool c.o4, .bool c.o5, .bool c.o6, .slice c.A c.rs.length c.cR, .slice c.D c.ds.length c.cD] 26)).heap.size (w.alloc (.cells #[.bool c.o0, .bool c.o1, .bool c.o2, .bool c.o3, .bool c.o4, .bool c.o5, .bool c.o6, .slice c.A c.rs.length c.cR, .slice c.D c.ds.length c.cD] 26)) (w.alloc (.cells #[.bool c.o0, .bool c.o1, .bool c.o2, .bool c.o3, .bool c.o4, .bool c.o5, .bool c.o6, .slice c.A c.rs.length c.cR, .slice c.D c.ds.length c.cD] 26))) := Lib.hid (Below.refl _ _)
  go_loopw [10, 11] (fun n i wr => ∃ k : Nat, (k : Int) ≤ b - a ∧ i = .int .i64 (a + k) ∧ n = .int .i64 (cnt c a k) ∧ Hid (Below (w.alloc (.cells #[.bool c.o0, .bool c.o1, .bool c.o2, .bool c.o3, .bool c.o4, .bool c.o5, .bool c.o6, .slice c.A c.rs.length c.cR, .slice c.D c.ds.length c.cD] 26)).heap.size (w.alloc (.cells #[.bool c.o0, .bool c.o1, .bool c.o2, .bool c.o3, .bool c.o4, .bool c.o5, .bool c.o6, .slice c.A c.rs.length c.cR, .slice c.D c.ds.length c.cD] 26)) wr)) (fun _ i _ => (b - intOf i).toNat)
  case atStart => exact ⟨0, by omega, by simp, rfl, HB0⟩
  case round =>
    obtain ⟨k, hkk, rfl, rfl, hbr⟩ := hrel
    clear HB0
    obtain ⟨hcwr, hfwr⟩ := bcell hbr.out
    have hzwr := hbr.out.size; (try simp at hzwr)
    have hBwr : Below w.heap.size w wr := (below_one w _).trans (hbr.out.mono (by simp))
    have le_w_wr : w.heap.size ≤ wr.heap.size := by omega
    try have lt_w_wr : w.heap.size < wr.heap.size := by omega
    have hcb := cnt_bd c a k
    by_cases hlt : a + (k : Int) < b
    · have hd := decide_eq_true hlt
      have hw1 : IntKind.i64.wrap (a + (k : Int) + 1) = a + (k : Int) + 1 := IntWalk.i64_in _ (by omega)
      have hcb2 : cnt c a k ≤ 4000 := by omega
      cases hi : c.is (a + (k : Int))
      · have HI := Lib.hid hi; clear hi
        generalize hm : cnt c a k = m at *
        have HM := Lib.hid hm; clear hm
        go_wp2_with fail
        refine (rcalIs_c c _ hk _ (hc.below (by repeat (first | assumption | exact Below.refl _ _ | (with_reducible refine Below.drew ?_) | (with_reducible refine below_drewN' ?_ _) | (with_reducible refine below_al ?_) | ((with_reducible refine below_set ?_ ?_); rotate_left; focus (first | (simp; done) | (simp; omega))))))).mono ?_; rintro e wq ⟨rfl, hbq⟩
        rw [HI.out]
        have hnx : Hid (Below (w.alloc (.cells #[.bool c.o0, .bool c.o1, .bool c.o2, .bool c.o3, .bool c.o4, .bool c.o5, .bool c.o6, .slice c.A c.rs.length c.cR, .slice c.D c.ds.length c.cD] 26)).heap.size (w.alloc (.cells #[.bool c.o0, .bool c.o1, .bool c.o2, .bool c.o3, .bool c.o4, .bool c.o5, .bool c.o6, .slice c.A c.rs.length c.cR, .slice c.D c.ds.length c.cD] 26)) wq) := Lib.hid (hbr.out.trans (hbq.mono hbr.out.size))
        go_wp2_with fail
        go_roundw
        case rel => exact ⟨k + 1, by omega, by go_num, by rw [cnt_miss HI.out, HM.out], hnx⟩
        case measure => simp [intOf]; omega
      · have HI := Lib.hid hi; clear hi
        generalize hm : cnt c a k = m at *
        have HM := Lib.hid hm; clear hm
        go_wp2_with fail
        refine (rcalIs_c c _ hk _ (hc.below (by repeat (first | assumption | exact Below.refl _ _ | (with_reducible refine Below.drew ?_) | (with_reducible refine below_drewN' ?_ _) | (with_reducible refine below_al ?_) | ((with_reducible refine below_set ?_ ?_); rotate_left; focus (first | (simp; done) | (simp; omega))))))).mono ?_; rintro e wq ⟨rfl, hbq⟩
        rw [HI.out]
        have hnx : Hid (Below (w.alloc (.cells #[.bool c.o0, .bool c.o1, .bool c.o2, .bool c.o3, .bool c.o4, .bool c.o5, .bool c.o6, .slice c.A c.rs.length c.cR, .slice c.D c.ds.length c.cD] 26)).heap.size (w.alloc (.cells #[.bool c.o0, .bool c.o1, .bool c.o2, .bool c.o3, .bool c.o4, .bool c.o5, .bool c.o6, .slice c.A c.rs.length c.cR, .slice c.D c.ds.length c.cD] 26)) wq) := Lib.hid (hbr.out.trans (hbq.mono hbr.out.size))
        go_wp2_with fail
        go_roundw
        case rel => exact ⟨k + 1, by omega, by go_num, by rw [cnt_hit HI.out, HM.out], hnx⟩
        case measure => simp [intOf]; omega
    · have hd := decide_eq_false hlt
      have hke : k = (b - a).toNat := by omega
      clear hlt
      subst hke
      go_wp2_with fail
      go_ret2
      exact ⟨rfl, by repeat (first | assumption | exact Below.refl _ _ | (with_reducible refine Below.drew ?_) | (with_reducible refine below_drewN' ?_ _) | (with_reducible refine below_al ?_) | ((with_reducible refine below_set ?_ ?_); rotate_left; focus (first | (simp; done) | (simp; omega))))⟩
theorem cmany_c (c : CalP) (a b : Int) (hk : CalOk c) (x y : Int) (hR : Hid (many c a b = (x, y))) (w : World) (hL : Laid w) (hc : CalIn w c) : Calls Tryd.prog 39 #[.agg #[.bool c.o0, .bool c.o1, .bool c.o2, .bool c.o3, .bool c.o4, .bool c.o5, .bool c.o6, .slice c.A c.rs.length c.cR, .slice c.D c.ds.length c.cD], .int .i64 a, .int .i64 b] w fun e w' => e = .returned (.tuple #[.int .i64 x, .int .i64 y]) ∧ Below w.heap.size w w' := by
  have h := hR.out
  unfold many at h
  by_cases ha : 1 ≤ a ∧ a ≤ 3652059
  · by_cases hb : 1 ≤ b ∧ b ≤ 3652059
    · rw [dayB_in ha.1 ha.2, dayB_in hb.1 hb.2, if_pos (by rfl)] at h
      by_cases h1 : b < a
      · rw [if_pos h1] at h; cases h
        exact cmany_ord c a b ha.1 ha.2 hb.1 hb.2 h1 hk w hL hc
      · rw [if_neg h1] at h
        by_cases h2 : 4000 < b - a
        · rw [if_pos h2] at h; cases h
          exact cmany_bnd c a b ha.1 ha.2 hb.1 hb.2 (by omega) h2 hk w hL hc
        · rw [if_neg h2] at h; cases h
          exact cmany_in c a b ha.1 ha.2 hb.1 hb.2 (by omega) (by omega) hk w hL hc
    · have hb' : b < 1 ∨ 3652059 < b := by omega
      rw [dayB_in ha.1 ha.2, dayB_out hb', if_neg (by decide)] at h; cases h
      exact cmany_d2 c a b ha.1 ha.2 hb' hk w hL hc
  · have ha' : a < 1 ∨ 3652059 < a := by omega
    rw [dayB_out ha', Bool.false_and, if_neg (by decide)] at h; cases h
    exact cmany_d1 c a b ha' hk w hL hc
theorem rmany_c (c : CalP) (a b : Int) (hk : CalOk c) (x y : Int) (hR : Hid (many c a b = (x, y))) (w : World) (hL : Laid w) (hc : CalIn w c) : Calls Tryd.prog 40 #[.agg #[.bool c.o0, .bool c.o1, .bool c.o2, .bool c.o3, .bool c.o4, .bool c.o5, .bool c.o6, .slice c.A c.rs.length c.cR, .slice c.D c.ds.length c.cD], .int .i64 a, .int .i64 b] w fun e w' => e = .returned (.tuple #[.int .i64 x, .int .i64 y]) ∧ Below w.heap.size w w' := by
  have h := hR.out
  unfold many at h
  by_cases ha : 1 ≤ a ∧ a ≤ 3652059
  · by_cases hb : 1 ≤ b ∧ b ≤ 3652059
    · rw [dayB_in ha.1 ha.2, dayB_in hb.1 hb.2, if_pos (by rfl)] at h
      by_cases h1 : b < a
      · rw [if_pos h1] at h; cases h
        exact rmany_ord c a b ha.1 ha.2 hb.1 hb.2 h1 hk w hL hc
      · rw [if_neg h1] at h
        by_cases h2 : 4000 < b - a
        · rw [if_pos h2] at h; cases h
          exact rmany_bnd c a b ha.1 ha.2 hb.1 hb.2 (by omega) h2 hk w hL hc
        · rw [if_neg h2] at h; cases h
          exact rmany_in c a b ha.1 ha.2 hb.1 hb.2 (by omega) (by omega) hk w hL hc
    · have hb' : b < 1 ∨ 3652059 < b := by omega
      rw [dayB_in ha.1 ha.2, dayB_out hb', if_neg (by decide)] at h; cases h
      exact rmany_d2 c a b (dayB_in ha.1 ha.2) (dayB_out hb') hk w hL hc
  · have ha' : a < 1 ∨ 3652059 < a := by omega
    rw [dayB_out ha', Bool.false_and, if_neg (by decide)] at h; cases h
    exact rmany_d1 c a b (dayB_out ha') _ rfl hk w hL hc
end Go.Proofs.YtlilffoflkkbdaaDoor
