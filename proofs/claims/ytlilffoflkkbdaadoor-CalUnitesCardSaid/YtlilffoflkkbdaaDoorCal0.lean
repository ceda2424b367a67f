/- The head of the statements on calendars: the document's example holds. Conditions: the tables of months' lengths and of the week all of whose days are off lie as the program's text lays them. -/
import Derived.Test.YtlilffoflkkbdaaDoorUniA
import Derived.Test.YtlilffoflkkbdaaDoorCalG
import Derived.Test.YtlilffoflkkbdaaDoorRolD
namespace Go.Proofs.YtlilffoflkkbdaaDoor
open Go.RowKit
set_option linter.unusedVariables false
/-- The example's other calendars. -/
def wkD : CalP := ⟨true, true, true, true, true, false, false, none, 0, [], none, 0, []⟩
def wk3C (D : Option Addr) (cD : Nat) : CalP := ⟨false, false, false, false, false, false, false, none, 0, [], D, cD, [3]⟩
def wkN : CalP := ⟨true, true, true, true, true, true, true, none, 0, [], none, 0, []⟩
theorem wkD_in (w : World) : CalIn w wkD := ⟨Or.inl rfl, Or.inl rfl⟩
theorem wkN_in (w : World) : CalIn w wkN := ⟨Or.inl rfl, Or.inl rfl⟩
theorem uds_nil : uds [] [] = [] := by unfold uds; rw [show ([] : List Int) ++ [] = [] from rfl, List.mergeSort_nil]; rfl
theorem uds_three : uds [] [3] = [3] := by unfold uds; rw [show ([] : List Int) ++ [3] = [3] from rfl, List.mergeSort_singleton]; decide
/-- What a union is, by its fields. -/
theorem UniOf.is {a b u : CalP} (h : UniOf a b u) : u = ⟨a.o0 || b.o0, a.o1 || b.o1, a.o2 || b.o2, a.o3 || b.o3, a.o4 || b.o4, a.o5 || b.o5, a.o6 || b.o6, u.A, u.cR, a.rs ++ b.rs, u.D, u.cD, uds a.ds b.ds⟩ := by
  obtain ⟨h0, h1, h2, h3, h4, h5, h6, hr, hd⟩ := h
  obtain ⟨o0, o1, o2, o3, o4, o5, o6, A, cR, rs, D, cD, ds⟩ := u
  simp only at h0 h1 h2 h3 h4 h5 h6 hr hd
  subst h0 h1 h2 h3 h4 h5 h6 hr hd
  rfl
def UnionNo (w : World) (e : Ending) (w' : World) : Prop := Below w.heap.size w w' ∧ e = .returned (.tuple #[.agg #[.bool false, .bool false, .bool false, .bool false, .bool false, .bool false, .bool false, .slice none 0 0, .slice none 0 0], .int .i64 1])
theorem uni1_c (w : World) (hL : Laid w) (hN : AllOff w) : Calls Tryd.prog 37 #[.agg #[.bool wkC.o0, .bool wkC.o1, .bool wkC.o2, .bool wkC.o3, .bool wkC.o4, .bool wkC.o5, .bool wkC.o6, .slice wkC.A wkC.rs.length wkC.cR, .slice wkC.D wkC.ds.length wkC.cD], .agg #[.bool wkD.o0, .bool wkD.o1, .bool wkD.o2, .bool wkD.o3, .bool wkD.o4, .bool wkD.o5, .bool wkD.o6, .slice wkD.A wkD.rs.length wkD.cR, .slice wkD.D wkD.ds.length wkD.cD]] w (UnionNo w) := by
  refine (union_c wkC wkD w hL hN (wk_in w) (wkD_in w) (by decide) (by decide) (by decide) (by decide)).mono fun e w' ⟨u, hu, hc, hB, h⟩ => ?_
  have hm : u.may = false := by
    rw [hu.is]
    exact CalP.may_no1 rfl
  rcases h with ⟨h1, _⟩ | ⟨_, h2⟩
  · rw [hm] at h1; cases h1
  · exact ⟨hB, h2⟩
def Union3 (w : World) (e : Ending) (w' : World) : Prop := ∃ (A : Option Addr) (cR : Nat) (D : Option Addr) (cD : Nat), Below w.heap.size w w' ∧ DIn w' D [3] ∧ e = .returned (.tuple #[.agg #[.bool false, .bool false, .bool false, .bool false, .bool false, .bool true, .bool true, .slice A 0 cR, .slice D 1 cD], .int .i64 0])
theorem uni3_c (D : Option Addr) (cD : Nat) (w : World) (hL : Laid w) (hN : AllOff w) (hD : DIn w D [3]) : Calls Tryd.prog 37 #[.agg #[.bool wkC.o0, .bool wkC.o1, .bool wkC.o2, .bool wkC.o3, .bool wkC.o4, .bool wkC.o5, .bool wkC.o6, .slice wkC.A wkC.rs.length wkC.cR, .slice wkC.D wkC.ds.length wkC.cD], .agg #[.bool false, .bool false, .bool false, .bool false, .bool false, .bool false, .bool false, .slice none 0 0, .slice D 1 cD]] w (Union3 w) := by
  refine (union_c wkC (wk3C D cD) w hL hN (wk_in w) ⟨Or.inl rfl, hD⟩ (by decide) (Nat.zero_le _) (by decide) (show 1 ≤ 1000000 by decide)).mono fun e w' ⟨u, hu, hc, hB, h⟩ => ?_
  have hd : u.ds = [3] := hu.hd.trans uds_three
  have hr : u.rs = [] := hu.hr.trans rfl
  have hm : u.may = true := by
    rw [CalP.may_iff]
    refine ⟨?_, by rw [hr]; decide, by rw [hd]; decide, (fun r h => by rw [hr] at h; cases h), (fun d h => ?_), by rw [hd]; rfl⟩
    · rw [hu.is]; rfl
    · rw [hd] at h; rw [List.mem_singleton.1 h]; decide
  rcases h with ⟨_, h2⟩ | ⟨h1, _⟩
  · refine ⟨u.A, u.cR, u.D, u.cD, hB, by rw [← hd]; exact hc.d, ?_⟩
    rw [h2, hr, hd, hu.h0, hu.h1, hu.h2, hu.h3, hu.h4, hu.h5, hu.h6]; rfl
  · rw [hm] at h1; cases h1
/-- The union with the third day. -/
def wuC (A : Option Addr) (cR : Nat) (D : Option Addr) (cD : Nat) : CalP := ⟨false, false, false, false, false, true, true, A, cR, [], D, cD, [3]⟩
theorem wu_ok (A : Option Addr) (cR : Nat) (D : Option Addr) (cD : Nat) : CalOk (wuC A cR D cD) := ⟨(fun r h => by cases h), (show ([3] : List Int).Pairwise (· ≤ ·) by simp), Nat.zero_le _, (show 1 ≤ 1000000 by decide)⟩
theorem wu_is (A : Option Addr) (cR : Nat) (D : Option Addr) (cD : Nat) : (wuC A cR D cD).is 3 = false := rfl
theorem wk_is3 : wkC.is 3 = true := by decide +kernel
theorem wk_is6 : wkC.is 6 = false := by decide +kernel
theorem wk_may : wkC.may = true := by decide +kernel
theorem wkN_may : wkN.may = false := by decide +kernel
theorem wk_m1 : many wkC 1 8 = (5, 0) := by decide +kernel
theorem wk_m2 : many wkC 8 1 = (0, 4) := by decide +kernel
theorem wk_m3 : many wkC 0 8 = (0, 3) := by decide +kernel
theorem wk_m4 : many wkC 1 4002 = (0, 2) := by decide +kernel
theorem is3_c (w : World) (hL : Laid w) : Calls Tryd.prog 36 #[.agg #[.bool false, .bool false, .bool false, .bool false, .bool false, .bool true, .bool true, .slice none 0 0, .slice none 0 0], .int .i64 3] w fun e w' => e = .returned (.bool true) ∧ Below w.heap.size w w' := by rw [← wk_is3]; exact calIs_c wkC 3 wk_ok w hL (wk_in w)
theorem is6_c (w : World) (hL : Laid w) : Calls Tryd.prog 36 #[.agg #[.bool false, .bool false, .bool false, .bool false, .bool false, .bool true, .bool true, .slice none 0 0, .slice none 0 0], .int .i64 6] w fun e w' => e = .returned (.bool false) ∧ Below w.heap.size w w' := by rw [← wk_is6]; exact calIs_c wkC 6 wk_ok w hL (wk_in w)
theorem isu_c (A : Option Addr) (cR : Nat) (D : Option Addr) (cD : Nat) (w : World) (hL : Laid w) (hD : DIn w D [3]) : Calls Tryd.prog 36 #[.agg #[.bool false, .bool false, .bool false, .bool false, .bool false, .bool true, .bool true, .slice A 0 cR, .slice D 1 cD], .int .i64 3] w fun e w' => e = .returned (.bool false) ∧ Below w.heap.size w w' := by rw [← wu_is A cR D cD]; exact calIs_c (wuC A cR D cD) 3 (wu_ok A cR D cD) w hL ⟨Or.inl rfl, hD⟩
theorem mayc_c (w : World) (hL : Laid w) (hN : AllOff w) : Calls Tryd.prog 35 #[.agg #[.bool false, .bool false, .bool false, .bool false, .bool false, .bool true, .bool true, .slice none 0 0, .slice none 0 0]] w fun e w' => e = .returned (.bool true) ∧ Below w.heap.size w w' := by rw [← wk_may]; exact calMay_c wkC w hL hN (wk_in w)
theorem mayn_c (w : World) (hL : Laid w) (hN : AllOff w) : Calls Tryd.prog 35 #[.agg #[.bool true, .bool true, .bool true, .bool true, .bool true, .bool true, .bool true, .slice none 0 0, .slice none 0 0]] w fun e w' => e = .returned (.bool false) ∧ Below w.heap.size w w' := by rw [← wkN_may]; exact calMay_c wkN w hL hN (wkN_in w)
set_option maxRecDepth 100000 in
set_option maxHeartbeats 8000000 in
theorem shown13_c (w : World) (hL : Laid w) (hN : AllOff w) : Calls Tryd.prog 34 #[] w fun e w' => e = .returned (.bool true) ∧ Below w.heap.size w w' := by
  have hB : Below w.heap.size w w := Below.refl _ _
  go_enter Tryd.func34, Tryd.ntmps34
  go_wp2_with fail
  refine (cmany_c wkC 1 8 wk_ok 5 0 (Lib.hid wk_m1) _ (hL.below (by repeat (first | assumption | exact Below.refl _ _ | (with_reducible refine Below.drew ?_) | (with_reducible refine below_drewN' ?_ _) | (with_reducible refine below_al ?_) | ((with_reducible refine below_set ?_ ?_); rotate_left; focus (first | (simp; done) | (simp; omega)))))) (wk_in _)).mono ?_; rintro e w1 ⟨rfl, hb1⟩
  have hz1 := hb1.size; (try simp at hz1); obtain ⟨hc1, hf1⟩ := bcell hb1; have hB1 := below_step (w := w) hb1 (by repeat (first | assumption | exact Below.refl _ _ | (with_reducible refine Below.drew ?_) | (with_reducible refine below_drewN' ?_ _) | (with_reducible refine below_al ?_) | ((with_reducible refine below_set ?_ ?_); rotate_left; focus (first | (simp; done) | (simp; omega)))))
  have le_w_w1 : w.heap.size ≤ w1.heap.size := by omega
  try have lt_w_w1 : w.heap.size < w1.heap.size := by omega
  have le1_w_w1 : w.heap.size + 1 ≤ w1.heap.size := by omega
  try have lt1_w_w1 : w.heap.size + 1 < w1.heap.size := by omega
  go_wp2_with fail
  refine (cmany_c wkC 8 1 wk_ok 0 4 (Lib.hid wk_m2) _ (hL.below (by repeat (first | assumption | exact Below.refl _ _ | (with_reducible refine Below.drew ?_) | (with_reducible refine below_drewN' ?_ _) | (with_reducible refine below_al ?_) | ((with_reducible refine below_set ?_ ?_); rotate_left; focus (first | (simp; done) | (simp; omega)))))) (wk_in _)).mono ?_; rintro e w2 ⟨rfl, hb2⟩
  have hz2 := hb2.size; (try simp at hz2); obtain ⟨hc2, hf2⟩ := bcell hb2; have hB2 := below_step (w := w) hb2 (by repeat (first | assumption | exact Below.refl _ _ | (with_reducible refine Below.drew ?_) | (with_reducible refine below_drewN' ?_ _) | (with_reducible refine below_al ?_) | ((with_reducible refine below_set ?_ ?_); rotate_left; focus (first | (simp; done) | (simp; omega)))))
  have le_w_w2 : w.heap.size ≤ w2.heap.size := by omega
  try have lt_w_w2 : w.heap.size < w2.heap.size := by omega
  have le1_w_w2 : w.heap.size + 1 ≤ w2.heap.size := by omega
  try have lt1_w_w2 : w.heap.size + 1 < w2.heap.size := by omega
  have le_w1_w2 : w1.heap.size ≤ w2.heap.size := by omega
  try have lt_w1_w2 : w1.heap.size < w2.heap.size := by omega
  go_wp2_with fail
  refine (cmany_c wkC 0 8 wk_ok 0 3 (Lib.hid wk_m3) _ (hL.below (by repeat (first | assumption | exact Below.refl _ _ | (with_reducible refine Below.drew ?_) | (with_reducible refine below_drewN' ?_ _) | (with_reducible refine below_al ?_) | ((with_reducible refine below_set ?_ ?_); rotate_left; focus (first | (simp; done) | (simp; omega)))))) (wk_in _)).mono ?_; rintro e w3 ⟨rfl, hb3⟩
  have hz3 := hb3.size; (try simp at hz3); obtain ⟨hc3, hf3⟩ := bcell hb3; have hB3 := below_step (w := w) hb3 (by repeat (first | assumption | exact Below.refl _ _ | (with_reducible refine Below.drew ?_) | (with_reducible refine below_drewN' ?_ _) | (with_reducible refine below_al ?_) | ((with_reducible refine below_set ?_ ?_); rotate_left; focus (first | (simp; done) | (simp; omega)))))
  have le_w_w3 : w.heap.size ≤ w3.heap.size := by omega
  try have lt_w_w3 : w.heap.size < w3.heap.size := by omega
  have le1_w_w3 : w.heap.size + 1 ≤ w3.heap.size := by omega
  try have lt1_w_w3 : w.heap.size + 1 < w3.heap.size := by omega
  have le_w1_w3 : w1.heap.size ≤ w3.heap.size := by omega
  try have lt_w1_w3 : w1.heap.size < w3.heap.size := by omega
  have le_w2_w3 : w2.heap.size ≤ w3.heap.size := by omega
  try have lt_w2_w3 : w2.heap.size < w3.heap.size := by omega
  go_wp2_with fail
  refine (cmany_c wkC 1 4002 wk_ok 0 2 (Lib.hid wk_m4) _ (hL.below (by repeat (first | assumption | exact Below.refl _ _ | (with_reducible refine Below.drew ?_) | (with_reducible refine below_drewN' ?_ _) | (with_reducible refine below_al ?_) | ((with_reducible refine below_set ?_ ?_); rotate_left; focus (first | (simp; done) | (simp; omega)))))) (wk_in _)).mono ?_; rintro e w4 ⟨rfl, hb4⟩
  have hz4 := hb4.size; (try simp at hz4); obtain ⟨hc4, hf4⟩ := bcell hb4; have hB4 := below_step (w := w) hb4 (by repeat (first | assumption | exact Below.refl _ _ | (with_reducible refine Below.drew ?_) | (with_reducible refine below_drewN' ?_ _) | (with_reducible refine below_al ?_) | ((with_reducible refine below_set ?_ ?_); rotate_left; focus (first | (simp; done) | (simp; omega)))))
  have le_w_w4 : w.heap.size ≤ w4.heap.size := by omega
  try have lt_w_w4 : w.heap.size < w4.heap.size := by omega
  have le1_w_w4 : w.heap.size + 1 ≤ w4.heap.size := by omega
  try have lt1_w_w4 : w.heap.size + 1 < w4.heap.size := by omega
  have le_w1_w4 : w1.heap.size ≤ w4.heap.size := by omega
  try have lt_w1_w4 : w1.heap.size < w4.heap.size := by omega
  have le_w2_w4 : w2.heap.size ≤ w4.heap.size := by omega
  try have lt_w2_w4 : w2.heap.size < w4.heap.size := by omega
  have le_w3_w4 : w3.heap.size ≤ w4.heap.size := by omega
  try have lt_w3_w4 : w3.heap.size < w4.heap.size := by omega
  go_wp2_with fail
  refine (uni1_c _ (hL.below (by repeat (first | assumption | exact Below.refl _ _ | (with_reducible refine Below.drew ?_) | (with_reducible refine below_drewN' ?_ _) | (with_reducible refine below_al ?_) | ((with_reducible refine below_set ?_ ?_); rotate_left; focus (first | (simp; done) | (simp; omega)))))) (hN.below (by repeat (first | assumption | exact Below.refl _ _ | (with_reducible refine Below.drew ?_) | (with_reducible refine below_drewN' ?_ _) | (with_reducible refine below_al ?_) | ((with_reducible refine below_set ?_ ?_); rotate_left; focus (first | (simp; done) | (simp; omega))))))).mono ?_; rintro e w5 ⟨hb5, rfl⟩
  have hz5 := hb5.size; (try simp at hz5); obtain ⟨hc5, hf5⟩ := bcell hb5; have hB5 := below_step (w := w) hb5 (by repeat (first | assumption | exact Below.refl _ _ | (with_reducible refine Below.drew ?_) | (with_reducible refine below_drewN' ?_ _) | (with_reducible refine below_al ?_) | ((with_reducible refine below_set ?_ ?_); rotate_left; focus (first | (simp; done) | (simp; omega)))))
  have le_w_w5 : w.heap.size ≤ w5.heap.size := by omega
  try have lt_w_w5 : w.heap.size < w5.heap.size := by omega
  have le1_w_w5 : w.heap.size + 1 ≤ w5.heap.size := by omega
  try have lt1_w_w5 : w.heap.size + 1 < w5.heap.size := by omega
  have le_w1_w5 : w1.heap.size ≤ w5.heap.size := by omega
  try have lt_w1_w5 : w1.heap.size < w5.heap.size := by omega
  have le_w2_w5 : w2.heap.size ≤ w5.heap.size := by omega
  try have lt_w2_w5 : w2.heap.size < w5.heap.size := by omega
  have le_w3_w5 : w3.heap.size ≤ w5.heap.size := by omega
  try have lt_w3_w5 : w3.heap.size < w5.heap.size := by omega
  have le_w4_w5 : w4.heap.size ≤ w5.heap.size := by omega
  try have lt_w4_w5 : w4.heap.size < w5.heap.size := by omega
  go_wp2_with fail
  refine (uni3_c _ _ _ (hL.below (by repeat (first | assumption | exact Below.refl _ _ | (with_reducible refine Below.drew ?_) | (with_reducible refine below_drewN' ?_ _) | (with_reducible refine below_al ?_) | ((with_reducible refine below_set ?_ ?_); rotate_left; focus (first | (simp; done) | (simp; omega)))))) (hN.below (by repeat (first | assumption | exact Below.refl _ _ | (with_reducible refine Below.drew ?_) | (with_reducible refine below_drewN' ?_ _) | (with_reducible refine below_al ?_) | ((with_reducible refine below_set ?_ ?_); rotate_left; focus (first | (simp; done) | (simp; omega)))))) (Or.inr ⟨_, 0, rfl, by simp, fun j hj => by obtain rfl : j = 0 := (by simpa using hj); simp⟩)).mono ?_; rintro e w6 ⟨A, cR, D, cD, hb6, hd6, rfl⟩
  have hz6 := hb6.size; (try simp at hz6); obtain ⟨hc6, hf6⟩ := bcell hb6; have hB6 := below_step (w := w) hb6 (by repeat (first | assumption | exact Below.refl _ _ | (with_reducible refine Below.drew ?_) | (with_reducible refine below_drewN' ?_ _) | (with_reducible refine below_al ?_) | ((with_reducible refine below_set ?_ ?_); rotate_left; focus (first | (simp; done) | (simp; omega)))))
  have le_w_w6 : w.heap.size ≤ w6.heap.size := by omega
  try have lt_w_w6 : w.heap.size < w6.heap.size := by omega
  have le1_w_w6 : w.heap.size + 1 ≤ w6.heap.size := by omega
  try have lt1_w_w6 : w.heap.size + 1 < w6.heap.size := by omega
  have le_w1_w6 : w1.heap.size ≤ w6.heap.size := by omega
  try have lt_w1_w6 : w1.heap.size < w6.heap.size := by omega
  have le_w2_w6 : w2.heap.size ≤ w6.heap.size := by omega
  try have lt_w2_w6 : w2.heap.size < w6.heap.size := by omega
  have le_w3_w6 : w3.heap.size ≤ w6.heap.size := by omega
  try have lt_w3_w6 : w3.heap.size < w6.heap.size := by omega
  have le_w4_w6 : w4.heap.size ≤ w6.heap.size := by omega
  try have lt_w4_w6 : w4.heap.size < w6.heap.size := by omega
  have le_w5_w6 : w5.heap.size ≤ w6.heap.size := by omega
  try have lt_w5_w6 : w5.heap.size < w6.heap.size := by omega
  have le1_w5_w6 : w5.heap.size + 1 ≤ w6.heap.size := by omega
  try have lt1_w5_w6 : w5.heap.size + 1 < w6.heap.size := by omega
  have x1 : w.heap.size < w5.heap.size + 1 + 1 := by omega
  have x2 : w.heap.size + 1 < w5.heap.size + 1 + 1 := by omega
  have x3 : w.heap.size < w6.heap.size + 1 := by omega
  have x4 : w.heap.size + 1 < w6.heap.size + 1 := by omega
  have x5 : w.heap.size < w5.heap.size + 1 := by omega
  have x6 : w.heap.size + 1 < w5.heap.size + 1 := by omega
  (try go_simp); (repeat (first | ((with_reducible refine wp_region_app ?_); simp only [List.cons_append, List.nil_append]) | go_values | go_skip | go_guarded | go_step | go_upon))
  refine (is3_c _ (hL.below (by repeat (first | assumption | exact Below.refl _ _ | (with_reducible refine Below.drew ?_) | (with_reducible refine below_drewN' ?_ _) | (with_reducible refine below_al ?_) | ((with_reducible refine below_set ?_ ?_); rotate_left; focus (first | (simp; done) | (simp; omega))))))).mono ?_; rintro e w7 ⟨rfl, hb7⟩
  have hz7 := hb7.size; (try simp at hz7); obtain ⟨hc7, hf7⟩ := bcell hb7; have hB7 := below_step (w := w) hb7 (by repeat (first | assumption | exact Below.refl _ _ | (with_reducible refine Below.drew ?_) | (with_reducible refine below_drewN' ?_ _) | (with_reducible refine below_al ?_) | ((with_reducible refine below_set ?_ ?_); rotate_left; focus (first | (simp; done) | (simp; omega)))))
  have le_w_w7 : w.heap.size ≤ w7.heap.size := by omega
  try have lt_w_w7 : w.heap.size < w7.heap.size := by omega
  have le1_w_w7 : w.heap.size + 1 ≤ w7.heap.size := by omega
  try have lt1_w_w7 : w.heap.size + 1 < w7.heap.size := by omega
  have le_w1_w7 : w1.heap.size ≤ w7.heap.size := by omega
  try have lt_w1_w7 : w1.heap.size < w7.heap.size := by omega
  have le_w2_w7 : w2.heap.size ≤ w7.heap.size := by omega
  try have lt_w2_w7 : w2.heap.size < w7.heap.size := by omega
  have le_w3_w7 : w3.heap.size ≤ w7.heap.size := by omega
  try have lt_w3_w7 : w3.heap.size < w7.heap.size := by omega
  have le_w4_w7 : w4.heap.size ≤ w7.heap.size := by omega
  try have lt_w4_w7 : w4.heap.size < w7.heap.size := by omega
  have le_w5_w7 : w5.heap.size ≤ w7.heap.size := by omega
  try have lt_w5_w7 : w5.heap.size < w7.heap.size := by omega
  have le1_w5_w7 : w5.heap.size + 1 ≤ w7.heap.size := by omega
  try have lt1_w5_w7 : w5.heap.size + 1 < w7.heap.size := by omega
  have le_w6_w7 : w6.heap.size ≤ w7.heap.size := by omega
  try have lt_w6_w7 : w6.heap.size < w7.heap.size := by omega
  have h67 := below_step (w := w6) hb7 (by repeat (first | assumption | exact Below.refl _ _ | (with_reducible refine Below.drew ?_) | (with_reducible refine below_drewN' ?_ _) | (with_reducible refine below_al ?_) | ((with_reducible refine below_set ?_ ?_); rotate_left; focus (first | (simp; done) | (simp; omega)))))
  (try go_simp); (repeat (first | ((with_reducible refine wp_region_app ?_); simp only [List.cons_append, List.nil_append]) | go_values | go_skip | go_guarded | go_step | go_upon))
  refine (isu_c A cR D cD _ (hL.below (by repeat (first | assumption | exact Below.refl _ _ | (with_reducible refine Below.drew ?_) | (with_reducible refine below_drewN' ?_ _) | (with_reducible refine below_al ?_) | ((with_reducible refine below_set ?_ ?_); rotate_left; focus (first | (simp; done) | (simp; omega)))))) (hd6.below (by repeat (first | assumption | exact Below.refl _ _ | (with_reducible refine Below.drew ?_) | (with_reducible refine below_drewN' ?_ _) | (with_reducible refine below_al ?_) | ((with_reducible refine below_set ?_ ?_); rotate_left; focus (first | (simp; done) | (simp; omega))))))).mono ?_; rintro e w8 ⟨rfl, hb8⟩
  have hz8 := hb8.size; (try simp at hz8); obtain ⟨hc8, hf8⟩ := bcell hb8; have hB8 := below_step (w := w) hb8 (by repeat (first | assumption | exact Below.refl _ _ | (with_reducible refine Below.drew ?_) | (with_reducible refine below_drewN' ?_ _) | (with_reducible refine below_al ?_) | ((with_reducible refine below_set ?_ ?_); rotate_left; focus (first | (simp; done) | (simp; omega)))))
  have le_w_w8 : w.heap.size ≤ w8.heap.size := by omega
  try have lt_w_w8 : w.heap.size < w8.heap.size := by omega
  have le1_w_w8 : w.heap.size + 1 ≤ w8.heap.size := by omega
  try have lt1_w_w8 : w.heap.size + 1 < w8.heap.size := by omega
  have le_w1_w8 : w1.heap.size ≤ w8.heap.size := by omega
  try have lt_w1_w8 : w1.heap.size < w8.heap.size := by omega
  have le_w2_w8 : w2.heap.size ≤ w8.heap.size := by omega
  try have lt_w2_w8 : w2.heap.size < w8.heap.size := by omega
  have le_w3_w8 : w3.heap.size ≤ w8.heap.size := by omega
  try have lt_w3_w8 : w3.heap.size < w8.heap.size := by omega
  have le_w4_w8 : w4.heap.size ≤ w8.heap.size := by omega
  try have lt_w4_w8 : w4.heap.size < w8.heap.size := by omega
  have le_w5_w8 : w5.heap.size ≤ w8.heap.size := by omega
  try have lt_w5_w8 : w5.heap.size < w8.heap.size := by omega
  have le1_w5_w8 : w5.heap.size + 1 ≤ w8.heap.size := by omega
  try have lt1_w5_w8 : w5.heap.size + 1 < w8.heap.size := by omega
  have le_w6_w8 : w6.heap.size ≤ w8.heap.size := by omega
  try have lt_w6_w8 : w6.heap.size < w8.heap.size := by omega
  have le_w7_w8 : w7.heap.size ≤ w8.heap.size := by omega
  try have lt_w7_w8 : w7.heap.size < w8.heap.size := by omega
  (try go_simp); (repeat (first | ((with_reducible refine wp_region_app ?_); simp only [List.cons_append, List.nil_append]) | go_values | go_skip | go_guarded | go_step | go_upon))
  refine (is6_c _ (hL.below (by repeat (first | assumption | exact Below.refl _ _ | (with_reducible refine Below.drew ?_) | (with_reducible refine below_drewN' ?_ _) | (with_reducible refine below_al ?_) | ((with_reducible refine below_set ?_ ?_); rotate_left; focus (first | (simp; done) | (simp; omega))))))).mono ?_; rintro e w9 ⟨rfl, hb9⟩
  have hz9 := hb9.size; (try simp at hz9); obtain ⟨hc9, hf9⟩ := bcell hb9; have hB9 := below_step (w := w) hb9 (by repeat (first | assumption | exact Below.refl _ _ | (with_reducible refine Below.drew ?_) | (with_reducible refine below_drewN' ?_ _) | (with_reducible refine below_al ?_) | ((with_reducible refine below_set ?_ ?_); rotate_left; focus (first | (simp; done) | (simp; omega)))))
  have le_w_w9 : w.heap.size ≤ w9.heap.size := by omega
  try have lt_w_w9 : w.heap.size < w9.heap.size := by omega
  have le1_w_w9 : w.heap.size + 1 ≤ w9.heap.size := by omega
  try have lt1_w_w9 : w.heap.size + 1 < w9.heap.size := by omega
  have le_w1_w9 : w1.heap.size ≤ w9.heap.size := by omega
  try have lt_w1_w9 : w1.heap.size < w9.heap.size := by omega
  have le_w2_w9 : w2.heap.size ≤ w9.heap.size := by omega
  try have lt_w2_w9 : w2.heap.size < w9.heap.size := by omega
  have le_w3_w9 : w3.heap.size ≤ w9.heap.size := by omega
  try have lt_w3_w9 : w3.heap.size < w9.heap.size := by omega
  have le_w4_w9 : w4.heap.size ≤ w9.heap.size := by omega
  try have lt_w4_w9 : w4.heap.size < w9.heap.size := by omega
  have le_w5_w9 : w5.heap.size ≤ w9.heap.size := by omega
  try have lt_w5_w9 : w5.heap.size < w9.heap.size := by omega
  have le1_w5_w9 : w5.heap.size + 1 ≤ w9.heap.size := by omega
  try have lt1_w5_w9 : w5.heap.size + 1 < w9.heap.size := by omega
  have le_w6_w9 : w6.heap.size ≤ w9.heap.size := by omega
  try have lt_w6_w9 : w6.heap.size < w9.heap.size := by omega
  have le_w7_w9 : w7.heap.size ≤ w9.heap.size := by omega
  try have lt_w7_w9 : w7.heap.size < w9.heap.size := by omega
  have le_w8_w9 : w8.heap.size ≤ w9.heap.size := by omega
  try have lt_w8_w9 : w8.heap.size < w9.heap.size := by omega
  (try go_simp); (repeat (first | ((with_reducible refine wp_region_app ?_); simp only [List.cons_append, List.nil_append]) | go_values | go_skip | go_guarded | go_step | go_upon))
  refine (mayc_c _ (hL.below (by repeat (first | assumption | exact Below.refl _ _ | (with_reducible refine Below.drew ?_) | (with_reducible refine below_drewN' ?_ _) | (with_reducible refine below_al ?_) | ((with_reducible refine below_set ?_ ?_); rotate_left; focus (first | (simp; done) | (simp; omega)))))) (hN.below (by repeat (first | assumption | exact Below.refl _ _ | (with_reducible refine Below.drew ?_) | (with_reducible refine below_drewN' ?_ _) | (with_reducible refine below_al ?_) | ((with_reducible refine below_set ?_ ?_); rotate_left; focus (first | (simp; done) | (simp; omega))))))).mono ?_; rintro e w10 ⟨rfl, hb10⟩
  have hz10 := hb10.size; (try simp at hz10); obtain ⟨hc10, hf10⟩ := bcell hb10; have hB10 := below_step (w := w) hb10 (by repeat (first | assumption | exact Below.refl _ _ | (with_reducible refine Below.drew ?_) | (with_reducible refine below_drewN' ?_ _) | (with_reducible refine below_al ?_) | ((with_reducible refine below_set ?_ ?_); rotate_left; focus (first | (simp; done) | (simp; omega)))))
  have le_w_w10 : w.heap.size ≤ w10.heap.size := by omega
  try have lt_w_w10 : w.heap.size < w10.heap.size := by omega
  have le1_w_w10 : w.heap.size + 1 ≤ w10.heap.size := by omega
  try have lt1_w_w10 : w.heap.size + 1 < w10.heap.size := by omega
  have le_w1_w10 : w1.heap.size ≤ w10.heap.size := by omega
  try have lt_w1_w10 : w1.heap.size < w10.heap.size := by omega
  have le_w2_w10 : w2.heap.size ≤ w10.heap.size := by omega
  try have lt_w2_w10 : w2.heap.size < w10.heap.size := by omega
  have le_w3_w10 : w3.heap.size ≤ w10.heap.size := by omega
  try have lt_w3_w10 : w3.heap.size < w10.heap.size := by omega
  have le_w4_w10 : w4.heap.size ≤ w10.heap.size := by omega
  try have lt_w4_w10 : w4.heap.size < w10.heap.size := by omega
  have le_w5_w10 : w5.heap.size ≤ w10.heap.size := by omega
  try have lt_w5_w10 : w5.heap.size < w10.heap.size := by omega
  have le1_w5_w10 : w5.heap.size + 1 ≤ w10.heap.size := by omega
  try have lt1_w5_w10 : w5.heap.size + 1 < w10.heap.size := by omega
  have le_w6_w10 : w6.heap.size ≤ w10.heap.size := by omega
  try have lt_w6_w10 : w6.heap.size < w10.heap.size := by omega
  have le_w7_w10 : w7.heap.size ≤ w10.heap.size := by omega
  try have lt_w7_w10 : w7.heap.size < w10.heap.size := by omega
  have le_w8_w10 : w8.heap.size ≤ w10.heap.size := by omega
  try have lt_w8_w10 : w8.heap.size < w10.heap.size := by omega
  have le_w9_w10 : w9.heap.size ≤ w10.heap.size := by omega
  try have lt_w9_w10 : w9.heap.size < w10.heap.size := by omega
  (try go_simp); (repeat (first | ((with_reducible refine wp_region_app ?_); simp only [List.cons_append, List.nil_append]) | go_values | go_skip | go_guarded | go_step | go_upon))
  refine (mayn_c _ (hL.below (by repeat (first | assumption | exact Below.refl _ _ | (with_reducible refine Below.drew ?_) | (with_reducible refine below_drewN' ?_ _) | (with_reducible refine below_al ?_) | ((with_reducible refine below_set ?_ ?_); rotate_left; focus (first | (simp; done) | (simp; omega)))))) (hN.below (by repeat (first | assumption | exact Below.refl _ _ | (with_reducible refine Below.drew ?_) | (with_reducible refine below_drewN' ?_ _) | (with_reducible refine below_al ?_) | ((with_reducible refine below_set ?_ ?_); rotate_left; focus (first | (simp; done) | (simp; omega))))))).mono ?_; rintro e w11 ⟨rfl, hb11⟩
  have hz11 := hb11.size; (try simp at hz11); obtain ⟨hc11, hf11⟩ := bcell hb11; have hB11 := below_step (w := w) hb11 (by repeat (first | assumption | exact Below.refl _ _ | (with_reducible refine Below.drew ?_) | (with_reducible refine below_drewN' ?_ _) | (with_reducible refine below_al ?_) | ((with_reducible refine below_set ?_ ?_); rotate_left; focus (first | (simp; done) | (simp; omega)))))
  have le_w_w11 : w.heap.size ≤ w11.heap.size := by omega
  try have lt_w_w11 : w.heap.size < w11.heap.size := by omega
  have le1_w_w11 : w.heap.size + 1 ≤ w11.heap.size := by omega
  try have lt1_w_w11 : w.heap.size + 1 < w11.heap.size := by omega
  have le_w1_w11 : w1.heap.size ≤ w11.heap.size := by omega
  try have lt_w1_w11 : w1.heap.size < w11.heap.size := by omega
  have le_w2_w11 : w2.heap.size ≤ w11.heap.size := by omega
  try have lt_w2_w11 : w2.heap.size < w11.heap.size := by omega
  have le_w3_w11 : w3.heap.size ≤ w11.heap.size := by omega
  try have lt_w3_w11 : w3.heap.size < w11.heap.size := by omega
  have le_w4_w11 : w4.heap.size ≤ w11.heap.size := by omega
  try have lt_w4_w11 : w4.heap.size < w11.heap.size := by omega
  have le_w5_w11 : w5.heap.size ≤ w11.heap.size := by omega
  try have lt_w5_w11 : w5.heap.size < w11.heap.size := by omega
  have le1_w5_w11 : w5.heap.size + 1 ≤ w11.heap.size := by omega
  try have lt1_w5_w11 : w5.heap.size + 1 < w11.heap.size := by omega
  have le_w6_w11 : w6.heap.size ≤ w11.heap.size := by omega
  try have lt_w6_w11 : w6.heap.size < w11.heap.size := by omega
  have le_w7_w11 : w7.heap.size ≤ w11.heap.size := by omega
  try have lt_w7_w11 : w7.heap.size < w11.heap.size := by omega
  have le_w8_w11 : w8.heap.size ≤ w11.heap.size := by omega
  try have lt_w8_w11 : w8.heap.size < w11.heap.size := by omega
  have le_w9_w11 : w9.heap.size ≤ w11.heap.size := by omega
  try have lt_w9_w11 : w9.heap.size < w11.heap.size := by omega
  have le_w10_w11 : w10.heap.size ≤ w11.heap.size := by omega
  try have lt_w10_w11 : w10.heap.size < w11.heap.size := by omega
  (try go_simp); (repeat (first | ((with_reducible refine wp_region_app ?_); simp only [List.cons_append, List.nil_append]) | go_values | go_skip | go_guarded | go_step | go_upon))
  go_ret
  exact ⟨rfl, by repeat (first | assumption | exact Below.refl _ _ | (with_reducible refine Below.drew ?_) | (with_reducible refine below_drewN' ?_ _) | (with_reducible refine below_al ?_) | ((with_reducible refine below_set ?_ ?_); rotate_left; focus (first | (simp; done) | (simp; omega))))⟩
end Go.Proofs.YtlilffoflkkbdaaDoor
