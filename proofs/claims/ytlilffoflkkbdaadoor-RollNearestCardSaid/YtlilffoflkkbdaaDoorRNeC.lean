/- Of the walk of RollNearest, part C. Conditions: the tables of months' lengths and of the ways' names lie as the program's text lays them. -/
import Derived.Test.YtlilffoflkkbdaaDoorRolD
import Derived.Test.YtlilffoflkkbdaaDoorRolP
import Derived.Test.YtlilffoflkkbdaaDoorCalE
import Derived.Test.YtlilffoflkkbdaaDoorROpP
import Derived.Test.YtlilffoflkkbdaaDoorUndef
namespace Go.Proofs.YtlilffoflkkbdaaDoor
open Go.RowKit
set_option linter.unusedVariables false
set_option maxRecDepth 100000 in
set_option maxHeartbeats 8000000 in
theorem rollNearest_100 (c : CalP) (n q : Int) (hf : c.few = true) (hm : c.may = true) (dy : dayB n = true) (n1 : 1 ≤ n) (n2 : n ≤ 3652059) (hi : c.is n = false) (i0 : Hid (I64 n)) (k : Int) (z2 : IntKind.i64.wrap q = q) (hqk : q.tmod 5 = k) (a e b f x g : Int) (U : Hid (sk c 1 61 n = (0, e))) (V : Hid (sk c (-1) 61 n = (b, 0))) (e0 : (e == 0) = false) (b1 : b < n) (b2 : n - 60 ≤ b) (b3 : 1 ≤ b) (bi : c.is b = true) (hdn : Hid (∀ i : Int, b < i → i ≤ n → c.is i = false)) (T : Hid (rl c n k = (x, g))) (g0 : (g != 0) = true) (w : World) (hL : Laid w) (hN : Named w) (hc : CalIn w c) : Calls Tryd.prog 4 #[.agg #[.bool c.o0, .bool c.o1, .bool c.o2, .bool c.o3, .bool c.o4, .bool c.o5, .bool c.o6, .slice c.A c.rs.length c.cR, .slice c.D c.ds.length c.cD], .int .i64 n, .int .u8 q] w fun e w' => e = .returned (.bool true) ∧ Below w.heap.size w w' := by
  have hk := Lib.hid (CalP.ok hm)
  have s1 : IntKind.i64.wrap (n + 60) = n + 60 := IntWalk.i64_in _ (by omega)
  have s2 : IntKind.i64.wrap (n - 60) = n - 60 := IntWalk.i64_in _ (by omega)
  have t1 : decide (n < 0) = false := decide_eq_false (by omega)
  have t3 : decide (n < b) = false := decide_eq_false (by omega)
  have t4 : decide (b < n - 60) = false := decide_eq_false (by omega)
  have hB : Below w.heap.size w w := Below.refl _ _
  go_enter Tryd.func4, Tryd.ntmps4
  (try go_simp); repeat (first | ((with_reducible refine wp_region_app ?_); simp only [List.cons_append, List.nil_append]) | go_values | go_skip | go_guarded | go_step | go_upon)
  refine (shown14_c _ (hL.below (by repeat (first | assumption | exact Below.refl _ _ | (with_reducible refine Below.drew ?_) | (with_reducible refine below_drewN' ?_ _) | (with_reducible refine below_al ?_) | ((with_reducible refine below_set ?_ ?_); rotate_left; focus (first | (simp; done) | (simp; omega)))))) (hN.below (by repeat (first | assumption | exact Below.refl _ _ | (with_reducible refine Below.drew ?_) | (with_reducible refine below_drewN' ?_ _) | (with_reducible refine below_al ?_) | ((with_reducible refine below_set ?_ ?_); rotate_left; focus (first | (simp; done) | (simp; omega))))))).mono ?_; rintro e w1 ⟨rfl, hb1⟩
  have hz1 := hb1.size; (try simp at hz1); obtain ⟨hc1, hf1⟩ := bcell hb1; have hB1 := below_step (w := w) hb1 (by repeat (first | assumption | exact Below.refl _ _ | (with_reducible refine Below.drew ?_) | (with_reducible refine below_drewN' ?_ _) | (with_reducible refine below_al ?_) | ((with_reducible refine below_set ?_ ?_); rotate_left; focus (first | (simp; done) | (simp; omega)))))
  have le_w_w1 : w.heap.size ≤ w1.heap.size := by omega
  try have lt_w_w1 : w.heap.size < w1.heap.size := by omega
  (try go_simp); repeat (first | ((with_reducible refine wp_region_app ?_); simp only [List.cons_append, List.nil_append]) | go_values | go_skip | go_guarded | go_step | go_upon)
  refine (few_c c _).mono ?_; rintro e w2 ⟨rfl, hb2⟩
  have hz2 := hb2.size; (try simp at hz2); obtain ⟨hc2, hf2⟩ := bcell hb2; have hB2 := below_step (w := w) hb2 (by repeat (first | assumption | exact Below.refl _ _ | (with_reducible refine Below.drew ?_) | (with_reducible refine below_drewN' ?_ _) | (with_reducible refine below_al ?_) | ((with_reducible refine below_set ?_ ?_); rotate_left; focus (first | (simp; done) | (simp; omega)))))
  have le_w_w2 : w.heap.size ≤ w2.heap.size := by omega
  try have lt_w_w2 : w.heap.size < w2.heap.size := by omega
  have le_w1_w2 : w1.heap.size ≤ w2.heap.size := by omega
  try have lt_w1_w2 : w1.heap.size < w2.heap.size := by omega
  (try go_simp); repeat (first | ((with_reducible refine wp_region_app ?_); simp only [List.cons_append, List.nil_append]) | go_values | go_skip | go_guarded | go_step | go_upon)
  refine (rcalMay_c c _ (hc.below (by repeat (first | assumption | exact Below.refl _ _ | (with_reducible refine Below.drew ?_) | (with_reducible refine below_drewN' ?_ _) | (with_reducible refine below_al ?_) | ((with_reducible refine below_set ?_ ?_); rotate_left; focus (first | (simp; done) | (simp; omega))))))).mono ?_; rintro e w3 ⟨rfl, hb3⟩
  have hz3 := hb3.size; (try simp at hz3); obtain ⟨hc3, hf3⟩ := bcell hb3; have hB3 := below_step (w := w) hb3 (by repeat (first | assumption | exact Below.refl _ _ | (with_reducible refine Below.drew ?_) | (with_reducible refine below_drewN' ?_ _) | (with_reducible refine below_al ?_) | ((with_reducible refine below_set ?_ ?_); rotate_left; focus (first | (simp; done) | (simp; omega)))))
  have le_w_w3 : w.heap.size ≤ w3.heap.size := by omega
  try have lt_w_w3 : w.heap.size < w3.heap.size := by omega
  have le_w1_w3 : w1.heap.size ≤ w3.heap.size := by omega
  try have lt_w1_w3 : w1.heap.size < w3.heap.size := by omega
  have le_w2_w3 : w2.heap.size ≤ w3.heap.size := by omega
  try have lt_w2_w3 : w2.heap.size < w3.heap.size := by omega
  (try go_simp); repeat (first | ((with_reducible refine wp_region_app ?_); simp only [List.cons_append, List.nil_append]) | go_values | go_skip | go_guarded | go_step | go_upon)
  refine (rday_c _ _).mono ?_; rintro e w' ⟨rfl, rfl⟩
  (try go_simp); repeat (first | ((with_reducible refine wp_region_app ?_); simp only [List.cons_append, List.nil_append]) | go_values | go_skip | go_guarded | go_step | go_upon)
  refine (next_c c n i0.out hk.out _ _ U _ (hL.below (by repeat (first | assumption | exact Below.refl _ _ | (with_reducible refine Below.drew ?_) | (with_reducible refine below_drewN' ?_ _) | (with_reducible refine below_al ?_) | ((with_reducible refine below_set ?_ ?_); rotate_left; focus (first | (simp; done) | (simp; omega)))))) (hc.below (by repeat (first | assumption | exact Below.refl _ _ | (with_reducible refine Below.drew ?_) | (with_reducible refine below_drewN' ?_ _) | (with_reducible refine below_al ?_) | ((with_reducible refine below_set ?_ ?_); rotate_left; focus (first | (simp; done) | (simp; omega))))))).mono ?_; rintro e w4 ⟨rfl, hb4⟩
  have hz4 := hb4.size; (try simp at hz4); obtain ⟨hc4, hf4⟩ := bcell hb4; have hB4 := below_step (w := w) hb4 (by repeat (first | assumption | exact Below.refl _ _ | (with_reducible refine Below.drew ?_) | (with_reducible refine below_drewN' ?_ _) | (with_reducible refine below_al ?_) | ((with_reducible refine below_set ?_ ?_); rotate_left; focus (first | (simp; done) | (simp; omega)))))
  have le_w_w4 : w.heap.size ≤ w4.heap.size := by omega
  try have lt_w_w4 : w.heap.size < w4.heap.size := by omega
  have le_w1_w4 : w1.heap.size ≤ w4.heap.size := by omega
  try have lt_w1_w4 : w1.heap.size < w4.heap.size := by omega
  have le_w2_w4 : w2.heap.size ≤ w4.heap.size := by omega
  try have lt_w2_w4 : w2.heap.size < w4.heap.size := by omega
  have le_w3_w4 : w3.heap.size ≤ w4.heap.size := by omega
  try have lt_w3_w4 : w3.heap.size < w4.heap.size := by omega
  (try go_simp); repeat (first | ((with_reducible refine wp_region_app ?_); simp only [List.cons_append, List.nil_append]) | go_values | go_skip | go_guarded | go_step | go_upon)
  refine (prev_c c n i0.out hk.out _ _ V _ (hL.below (by repeat (first | assumption | exact Below.refl _ _ | (with_reducible refine Below.drew ?_) | (with_reducible refine below_drewN' ?_ _) | (with_reducible refine below_al ?_) | ((with_reducible refine below_set ?_ ?_); rotate_left; focus (first | (simp; done) | (simp; omega)))))) (hc.below (by repeat (first | assumption | exact Below.refl _ _ | (with_reducible refine Below.drew ?_) | (with_reducible refine below_drewN' ?_ _) | (with_reducible refine below_al ?_) | ((with_reducible refine below_set ?_ ?_); rotate_left; focus (first | (simp; done) | (simp; omega))))))).mono ?_; rintro e w5 ⟨rfl, hb5⟩
  have hz5 := hb5.size; (try simp at hz5); obtain ⟨hc5, hf5⟩ := bcell hb5; have hB5 := below_step (w := w) hb5 (by repeat (first | assumption | exact Below.refl _ _ | (with_reducible refine Below.drew ?_) | (with_reducible refine below_drewN' ?_ _) | (with_reducible refine below_al ?_) | ((with_reducible refine below_set ?_ ?_); rotate_left; focus (first | (simp; done) | (simp; omega)))))
  have le_w_w5 : w.heap.size ≤ w5.heap.size := by omega
  try have lt_w_w5 : w.heap.size < w5.heap.size := by omega
  have le_w1_w5 : w1.heap.size ≤ w5.heap.size := by omega
  try have lt_w1_w5 : w1.heap.size < w5.heap.size := by omega
  have le_w2_w5 : w2.heap.size ≤ w5.heap.size := by omega
  try have lt_w2_w5 : w2.heap.size < w5.heap.size := by omega
  have le_w3_w5 : w3.heap.size ≤ w5.heap.size := by omega
  try have lt_w3_w5 : w3.heap.size < w5.heap.size := by omega
  have le_w4_w5 : w4.heap.size ≤ w5.heap.size := by omega
  try have lt_w4_w5 : w4.heap.size < w5.heap.size := by omega
  (try go_simp); repeat (first | ((with_reducible refine wp_region_app ?_); simp only [List.cons_append, List.nil_append]) | go_values | go_skip | go_guarded | go_step | go_upon)
  refine (rcalIs_c c b hk.out _ (hc.below (by repeat (first | assumption | exact Below.refl _ _ | (with_reducible refine Below.drew ?_) | (with_reducible refine below_drewN' ?_ _) | (with_reducible refine below_al ?_) | ((with_reducible refine below_set ?_ ?_); rotate_left; focus (first | (simp; done) | (simp; omega))))))).mono ?_; rintro e w6 ⟨rfl, hb6⟩
  have hz6 := hb6.size; (try simp at hz6); obtain ⟨hc6, hf6⟩ := bcell hb6; have hB6 := below_step (w := w) hb6 (by repeat (first | assumption | exact Below.refl _ _ | (with_reducible refine Below.drew ?_) | (with_reducible refine below_drewN' ?_ _) | (with_reducible refine below_al ?_) | ((with_reducible refine below_set ?_ ?_); rotate_left; focus (first | (simp; done) | (simp; omega)))))
  have le_w_w6 : w.heap.size ≤ w6.heap.size := by omega
  try have lt_w_w6 : w.heap.size < w6.heap.size := by omega
  have le_w1_w6 : w1.heap.size ≤ w6.heap.size := by omega
  try have lt_w1_w6 : w1.heap.size < w6.heap.size := by omega
  have le_w2_w6 : w2.heap.size ≤ w6.heap.size := by omega
  try have lt_w2_w6 : w2.heap.size < w6.heap.size := by omega
  have le_w3_w6 : w3.heap.size ≤ w6.heap.size := by omega
  try have lt_w3_w6 : w3.heap.size < w6.heap.size := by omega
  have le_w4_w6 : w4.heap.size ≤ w6.heap.size := by omega
  try have lt_w4_w6 : w4.heap.size < w6.heap.size := by omega
  have le_w5_w6 : w5.heap.size ≤ w6.heap.size := by omega
  try have lt_w5_w6 : w5.heap.size < w6.heap.size := by omega
  (try go_simp); repeat (first | ((with_reducible refine wp_region_app ?_); simp only [List.cons_append, List.nil_append]) | go_values | go_skip | go_guarded | go_step | go_upon)
  refine wp_loop_rounds 1 ?_
  rw [rounds_succ]
  (try go_simp); repeat (first | ((with_reducible refine wp_region_app ?_); simp only [List.cons_append, List.nil_append]) | go_values | go_skip | go_guarded | go_step | go_upon)
  have HB13 : Hid (Below w6.heap.size w6 w6) := Lib.hid (Below.refl _ _)
  go_loopw [13] (fun i wr => ∃ k : Nat, (k : Int) ≤ n - b ∧ i = .int .i64 (n - (k : Int)) ∧ Hid (Below w6.heap.size w6 wr)) (fun i _ => (intOf i - b).toNat)
  case atStart => exact ⟨0, by omega, by simp, HB13⟩
  case round =>
    obtain ⟨wt_, rfl⟩ : ∃ W : World, W = wr := ⟨_, rfl⟩
    obtain ⟨k13, hkk13, rfl, hbr13⟩ := hrel
    clear HB13
    obtain ⟨hcwt_, hfwt_⟩ := bcell hbr13.out
    have hzwt_ := hbr13.out.size; (try simp at hzwt_)
    have hBwt_ : Below w.heap.size w wt_ := below_step (w := w) hbr13.out hB6
    have le_w_wt_ : w.heap.size ≤ wt_.heap.size := by omega
    try have lt_w_wt_ : w.heap.size < wt_.heap.size := by omega
    have le_w1_wt_ : w1.heap.size ≤ wt_.heap.size := by omega
    try have lt_w1_wt_ : w1.heap.size < wt_.heap.size := by omega
    have le_w2_wt_ : w2.heap.size ≤ wt_.heap.size := by omega
    try have lt_w2_wt_ : w2.heap.size < wt_.heap.size := by omega
    have le_w3_wt_ : w3.heap.size ≤ wt_.heap.size := by omega
    try have lt_w3_wt_ : w3.heap.size < wt_.heap.size := by omega
    have le_w4_wt_ : w4.heap.size ≤ wt_.heap.size := by omega
    try have lt_w4_wt_ : w4.heap.size < wt_.heap.size := by omega
    have le_w5_wt_ : w5.heap.size ≤ wt_.heap.size := by omega
    try have lt_w5_wt_ : w5.heap.size < wt_.heap.size := by omega
    have le_w6_wt_ : w6.heap.size ≤ wt_.heap.size := by omega
    try have lt_w6_wt_ : w6.heap.size < wt_.heap.size := by omega
    by_cases hlt13 : b < n - (k13 : Int)
    · have hd13 := decide_eq_true hlt13
      have hi13 : Hid (c.is (n - (k13 : Int)) = false) := Lib.hid (hdn.out _ (by omega) (by omega))
      have hwr13 : IntKind.i64.wrap (n - (k13 : Int) - 1) = n - (k13 : Int) - 1 := IntWalk.i64_in _ (by omega)
      (try go_simp); repeat (first | ((with_reducible refine wp_region_app ?_); simp only [List.cons_append, List.nil_append]) | go_values | go_skip | go_guarded | go_step | go_upon)
      refine (rcalIs_c c _ hk.out _ (hc.below (by repeat (first | assumption | exact Below.refl _ _ | (with_reducible refine Below.drew ?_) | (with_reducible refine below_drewN' ?_ _) | (with_reducible refine below_al ?_) | ((with_reducible refine below_set ?_ ?_); rotate_left; focus (first | (simp; done) | (simp; omega))))))).mono ?_; rintro e wq ⟨rfl, hbq⟩
      rw [hi13.out]
      have hnx : Hid (Below w6.heap.size w6 wq) := Lib.hid (hbr13.out.trans (hbq.mono hbr13.out.size))
      (try go_simp); repeat (first | ((with_reducible refine wp_region_app ?_); simp only [List.cons_append, List.nil_append]) | go_values | go_skip | go_guarded | go_step | go_upon)
      refine ⟨?_, ?measure⟩
      (repeat apply Exists.intro)
      refine ⟨?rel, ?fr⟩
      case fr => ((repeat apply Exists.intro); rfl)
      case rel => exact ⟨k13 + 1, by omega, by go_num, hnx⟩
      case measure => simp [intOf]; omega
    · have hd13 := decide_eq_false hlt13
      clear hlt13
      (try go_simp); repeat (first | ((with_reducible refine wp_region_app ?_); simp only [List.cons_append, List.nil_append]) | go_values | go_skip | go_guarded | go_step | go_upon)
      refine (to_c c n k i0.out hk.out _ _ T _ (hL.below (by repeat (first | assumption | exact Below.refl _ _ | (with_reducible refine Below.drew ?_) | (with_reducible refine below_drewN' ?_ _) | (with_reducible refine below_al ?_) | ((with_reducible refine below_set ?_ ?_); rotate_left; focus (first | (simp; done) | (simp; omega)))))) (hc.below (by repeat (first | assumption | exact Below.refl _ _ | (with_reducible refine Below.drew ?_) | (with_reducible refine below_drewN' ?_ _) | (with_reducible refine below_al ?_) | ((with_reducible refine below_set ?_ ?_); rotate_left; focus (first | (simp; done) | (simp; omega))))))).mono ?_; rintro e w7 ⟨rfl, hb7⟩
      have hz7 := hb7.size; (try simp at hz7); obtain ⟨hc7, hf7⟩ := bcell hb7; have hB7 := below_step (w := w) hb7 (by repeat (first | assumption | exact Below.refl _ _ | (with_reducible refine Below.drew ?_) | (with_reducible refine below_drewN' ?_ _) | (with_reducible refine below_al ?_) | ((with_reducible refine below_set ?_ ?_); rotate_left; focus (first | (simp; done) | (simp; omega)))))
      have le_w_w7 : w.heap.size ≤ w7.heap.size := by omega
      try have lt_w_w7 : w.heap.size < w7.heap.size := by omega
      have le_w1_w7 : w1.heap.size ≤ w7.heap.size := by omega
      try have lt_w1_w7 : w1.heap.size < w7.heap.size := by omega
      have le_w2_w7 : w2.heap.size ≤ w7.heap.size := by omega
      try have lt_w2_w7 : w2.heap.size < w7.heap.size := by omega
      have le_w3_w7 : w3.heap.size ≤ w7.heap.size := by omega
      try have lt_w3_w7 : w3.heap.size < w7.heap.size := by omega
      have le_w4_w7 : w4.heap.size ≤ w7.heap.size := by omega
      try have lt_w4_w7 : w4.heap.size < w7.heap.size := by omega
      have le_w5_w7 : w5.heap.size ≤ w7.heap.size := by omega
      try have lt_w5_w7 : w5.heap.size < w7.heap.size := by omega
      have le_w6_w7 : w6.heap.size ≤ w7.heap.size := by omega
      try have lt_w6_w7 : w6.heap.size < w7.heap.size := by omega
      have le_wt__w7 : wt_.heap.size ≤ w7.heap.size := by omega
      try have lt_wt__w7 : wt_.heap.size < w7.heap.size := by omega
      (try go_simp); repeat (first | ((with_reducible refine wp_region_app ?_); simp only [List.cons_append, List.nil_append]) | go_values | go_skip | go_guarded | go_step | go_upon)
      refine (rcalIs_c c n hk.out _ (hc.below (by repeat (first | assumption | exact Below.refl _ _ | (with_reducible refine Below.drew ?_) | (with_reducible refine below_drewN' ?_ _) | (with_reducible refine below_al ?_) | ((with_reducible refine below_set ?_ ?_); rotate_left; focus (first | (simp; done) | (simp; omega))))))).mono ?_; rintro e w8 ⟨rfl, hb8⟩
      have hz8 := hb8.size; (try simp at hz8); obtain ⟨hc8, hf8⟩ := bcell hb8; have hB8 := below_step (w := w) hb8 (by repeat (first | assumption | exact Below.refl _ _ | (with_reducible refine Below.drew ?_) | (with_reducible refine below_drewN' ?_ _) | (with_reducible refine below_al ?_) | ((with_reducible refine below_set ?_ ?_); rotate_left; focus (first | (simp; done) | (simp; omega)))))
      have le_w_w8 : w.heap.size ≤ w8.heap.size := by omega
      try have lt_w_w8 : w.heap.size < w8.heap.size := by omega
      have le_w1_w8 : w1.heap.size ≤ w8.heap.size := by omega
      try have lt_w1_w8 : w1.heap.size < w8.heap.size := by omega
      have le_w2_w8 : w2.heap.size ≤ w8.heap.size := by omega
      try have lt_w2_w8 : w2.heap.size < w8.heap.size := by omega
      have le_w3_w8 : w3.heap.size ≤ w8.heap.size := by omega
      try have lt_w3_w8 : w3.heap.size < w8.heap.size := by omega
      have le_w4_w8 : w4.heap.size ≤ w8.heap.size := by omega
      try have lt_w4_w8 : w4.heap.size < w8.heap.size := by omega
      have le_w5_w8 : w5.heap.size ≤ w8.heap.size := by omega
      try have lt_w5_w8 : w5.heap.size < w8.heap.size := by omega
      have le_w6_w8 : w6.heap.size ≤ w8.heap.size := by omega
      try have lt_w6_w8 : w6.heap.size < w8.heap.size := by omega
      have le_wt__w8 : wt_.heap.size ≤ w8.heap.size := by omega
      try have lt_wt__w8 : wt_.heap.size < w8.heap.size := by omega
      have le_w7_w8 : w7.heap.size ≤ w8.heap.size := by omega
      try have lt_w7_w8 : w7.heap.size < w8.heap.size := by omega
      (try go_simp); repeat (first | ((with_reducible refine wp_region_app ?_); simp only [List.cons_append, List.nil_append]) | go_values | go_skip | go_guarded | go_step | go_upon)
      go_ret
      exact ⟨rfl, by repeat (first | assumption | exact Below.refl _ _ | (with_reducible refine Below.drew ?_) | (with_reducible refine below_drewN' ?_ _) | (with_reducible refine below_al ?_) | ((with_reducible refine below_set ?_ ?_); rotate_left; focus (first | (simp; done) | (simp; omega))))⟩
set_option maxRecDepth 100000 in
set_option maxHeartbeats 8000000 in
theorem rollNearest_101 (c : CalP) (n q : Int) (hf : c.few = true) (hm : c.may = true) (dy : dayB n = true) (n1 : 1 ≤ n) (n2 : n ≤ 3652059) (hi : c.is n = false) (i0 : Hid (I64 n)) (k : Int) (z2 : IntKind.i64.wrap q = q) (hqk : q.tmod 5 = k) (a e b f x g : Int) (U : Hid (sk c 1 61 n = (0, e))) (V : Hid (sk c (-1) 61 n = (b, 0))) (e0 : (e == 0) = false) (b1 : b < n) (b2 : n - 60 ≤ b) (b3 : 1 ≤ b) (bi : c.is b = true) (hdn : Hid (∀ i : Int, b < i → i ≤ n → c.is i = false)) (T : Hid (rl c n k = (n, 0))) (k0 : (k == 0) = true) (w : World) (hL : Laid w) (hN : Named w) (hc : CalIn w c) : Calls Tryd.prog 4 #[.agg #[.bool c.o0, .bool c.o1, .bool c.o2, .bool c.o3, .bool c.o4, .bool c.o5, .bool c.o6, .slice c.A c.rs.length c.cR, .slice c.D c.ds.length c.cD], .int .i64 n, .int .u8 q] w fun e w' => e = .returned (.bool true) ∧ Below w.heap.size w w' := by
  have hk := Lib.hid (CalP.ok hm)
  have s1 : IntKind.i64.wrap (n + 60) = n + 60 := IntWalk.i64_in _ (by omega)
  have s2 : IntKind.i64.wrap (n - 60) = n - 60 := IntWalk.i64_in _ (by omega)
  have t1 : decide (n < 0) = false := decide_eq_false (by omega)
  have t3 : decide (n < b) = false := decide_eq_false (by omega)
  have t4 : decide (b < n - 60) = false := decide_eq_false (by omega)
  have hB : Below w.heap.size w w := Below.refl _ _
  go_enter Tryd.func4, Tryd.ntmps4
  (try go_simp); repeat (first | ((with_reducible refine wp_region_app ?_); simp only [List.cons_append, List.nil_append]) | go_values | go_skip | go_guarded | go_step | go_upon)
  refine (shown14_c _ (hL.below (by repeat (first | assumption | exact Below.refl _ _ | (with_reducible refine Below.drew ?_) | (with_reducible refine below_drewN' ?_ _) | (with_reducible refine below_al ?_) | ((with_reducible refine below_set ?_ ?_); rotate_left; focus (first | (simp; done) | (simp; omega)))))) (hN.below (by repeat (first | assumption | exact Below.refl _ _ | (with_reducible refine Below.drew ?_) | (with_reducible refine below_drewN' ?_ _) | (with_reducible refine below_al ?_) | ((with_reducible refine below_set ?_ ?_); rotate_left; focus (first | (simp; done) | (simp; omega))))))).mono ?_; rintro e w1 ⟨rfl, hb1⟩
  have hz1 := hb1.size; (try simp at hz1); obtain ⟨hc1, hf1⟩ := bcell hb1; have hB1 := below_step (w := w) hb1 (by repeat (first | assumption | exact Below.refl _ _ | (with_reducible refine Below.drew ?_) | (with_reducible refine below_drewN' ?_ _) | (with_reducible refine below_al ?_) | ((with_reducible refine below_set ?_ ?_); rotate_left; focus (first | (simp; done) | (simp; omega)))))
  have le_w_w1 : w.heap.size ≤ w1.heap.size := by omega
  try have lt_w_w1 : w.heap.size < w1.heap.size := by omega
  (try go_simp); repeat (first | ((with_reducible refine wp_region_app ?_); simp only [List.cons_append, List.nil_append]) | go_values | go_skip | go_guarded | go_step | go_upon)
  refine (few_c c _).mono ?_; rintro e w2 ⟨rfl, hb2⟩
  have hz2 := hb2.size; (try simp at hz2); obtain ⟨hc2, hf2⟩ := bcell hb2; have hB2 := below_step (w := w) hb2 (by repeat (first | assumption | exact Below.refl _ _ | (with_reducible refine Below.drew ?_) | (with_reducible refine below_drewN' ?_ _) | (with_reducible refine below_al ?_) | ((with_reducible refine below_set ?_ ?_); rotate_left; focus (first | (simp; done) | (simp; omega)))))
  have le_w_w2 : w.heap.size ≤ w2.heap.size := by omega
  try have lt_w_w2 : w.heap.size < w2.heap.size := by omega
  have le_w1_w2 : w1.heap.size ≤ w2.heap.size := by omega
  try have lt_w1_w2 : w1.heap.size < w2.heap.size := by omega
  (try go_simp); repeat (first | ((with_reducible refine wp_region_app ?_); simp only [List.cons_append, List.nil_append]) | go_values | go_skip | go_guarded | go_step | go_upon)
  refine (rcalMay_c c _ (hc.below (by repeat (first | assumption | exact Below.refl _ _ | (with_reducible refine Below.drew ?_) | (with_reducible refine below_drewN' ?_ _) | (with_reducible refine below_al ?_) | ((with_reducible refine below_set ?_ ?_); rotate_left; focus (first | (simp; done) | (simp; omega))))))).mono ?_; rintro e w3 ⟨rfl, hb3⟩
  have hz3 := hb3.size; (try simp at hz3); obtain ⟨hc3, hf3⟩ := bcell hb3; have hB3 := below_step (w := w) hb3 (by repeat (first | assumption | exact Below.refl _ _ | (with_reducible refine Below.drew ?_) | (with_reducible refine below_drewN' ?_ _) | (with_reducible refine below_al ?_) | ((with_reducible refine below_set ?_ ?_); rotate_left; focus (first | (simp; done) | (simp; omega)))))
  have le_w_w3 : w.heap.size ≤ w3.heap.size := by omega
  try have lt_w_w3 : w.heap.size < w3.heap.size := by omega
  have le_w1_w3 : w1.heap.size ≤ w3.heap.size := by omega
  try have lt_w1_w3 : w1.heap.size < w3.heap.size := by omega
  have le_w2_w3 : w2.heap.size ≤ w3.heap.size := by omega
  try have lt_w2_w3 : w2.heap.size < w3.heap.size := by omega
  (try go_simp); repeat (first | ((with_reducible refine wp_region_app ?_); simp only [List.cons_append, List.nil_append]) | go_values | go_skip | go_guarded | go_step | go_upon)
  refine (rday_c _ _).mono ?_; rintro e w' ⟨rfl, rfl⟩
  (try go_simp); repeat (first | ((with_reducible refine wp_region_app ?_); simp only [List.cons_append, List.nil_append]) | go_values | go_skip | go_guarded | go_step | go_upon)
  refine (next_c c n i0.out hk.out _ _ U _ (hL.below (by repeat (first | assumption | exact Below.refl _ _ | (with_reducible refine Below.drew ?_) | (with_reducible refine below_drewN' ?_ _) | (with_reducible refine below_al ?_) | ((with_reducible refine below_set ?_ ?_); rotate_left; focus (first | (simp; done) | (simp; omega)))))) (hc.below (by repeat (first | assumption | exact Below.refl _ _ | (with_reducible refine Below.drew ?_) | (with_reducible refine below_drewN' ?_ _) | (with_reducible refine below_al ?_) | ((with_reducible refine below_set ?_ ?_); rotate_left; focus (first | (simp; done) | (simp; omega))))))).mono ?_; rintro e w4 ⟨rfl, hb4⟩
  have hz4 := hb4.size; (try simp at hz4); obtain ⟨hc4, hf4⟩ := bcell hb4; have hB4 := below_step (w := w) hb4 (by repeat (first | assumption | exact Below.refl _ _ | (with_reducible refine Below.drew ?_) | (with_reducible refine below_drewN' ?_ _) | (with_reducible refine below_al ?_) | ((with_reducible refine below_set ?_ ?_); rotate_left; focus (first | (simp; done) | (simp; omega)))))
  have le_w_w4 : w.heap.size ≤ w4.heap.size := by omega
  try have lt_w_w4 : w.heap.size < w4.heap.size := by omega
  have le_w1_w4 : w1.heap.size ≤ w4.heap.size := by omega
  try have lt_w1_w4 : w1.heap.size < w4.heap.size := by omega
  have le_w2_w4 : w2.heap.size ≤ w4.heap.size := by omega
  try have lt_w2_w4 : w2.heap.size < w4.heap.size := by omega
  have le_w3_w4 : w3.heap.size ≤ w4.heap.size := by omega
  try have lt_w3_w4 : w3.heap.size < w4.heap.size := by omega
  (try go_simp); repeat (first | ((with_reducible refine wp_region_app ?_); simp only [List.cons_append, List.nil_append]) | go_values | go_skip | go_guarded | go_step | go_upon)
  refine (prev_c c n i0.out hk.out _ _ V _ (hL.below (by repeat (first | assumption | exact Below.refl _ _ | (with_reducible refine Below.drew ?_) | (with_reducible refine below_drewN' ?_ _) | (with_reducible refine below_al ?_) | ((with_reducible refine below_set ?_ ?_); rotate_left; focus (first | (simp; done) | (simp; omega)))))) (hc.below (by repeat (first | assumption | exact Below.refl _ _ | (with_reducible refine Below.drew ?_) | (with_reducible refine below_drewN' ?_ _) | (with_reducible refine below_al ?_) | ((with_reducible refine below_set ?_ ?_); rotate_left; focus (first | (simp; done) | (simp; omega))))))).mono ?_; rintro e w5 ⟨rfl, hb5⟩
  have hz5 := hb5.size; (try simp at hz5); obtain ⟨hc5, hf5⟩ := bcell hb5; have hB5 := below_step (w := w) hb5 (by repeat (first | assumption | exact Below.refl _ _ | (with_reducible refine Below.drew ?_) | (with_reducible refine below_drewN' ?_ _) | (with_reducible refine below_al ?_) | ((with_reducible refine below_set ?_ ?_); rotate_left; focus (first | (simp; done) | (simp; omega)))))
  have le_w_w5 : w.heap.size ≤ w5.heap.size := by omega
  try have lt_w_w5 : w.heap.size < w5.heap.size := by omega
  have le_w1_w5 : w1.heap.size ≤ w5.heap.size := by omega
  try have lt_w1_w5 : w1.heap.size < w5.heap.size := by omega
  have le_w2_w5 : w2.heap.size ≤ w5.heap.size := by omega
  try have lt_w2_w5 : w2.heap.size < w5.heap.size := by omega
  have le_w3_w5 : w3.heap.size ≤ w5.heap.size := by omega
  try have lt_w3_w5 : w3.heap.size < w5.heap.size := by omega
  have le_w4_w5 : w4.heap.size ≤ w5.heap.size := by omega
  try have lt_w4_w5 : w4.heap.size < w5.heap.size := by omega
  (try go_simp); repeat (first | ((with_reducible refine wp_region_app ?_); simp only [List.cons_append, List.nil_append]) | go_values | go_skip | go_guarded | go_step | go_upon)
  refine (rcalIs_c c b hk.out _ (hc.below (by repeat (first | assumption | exact Below.refl _ _ | (with_reducible refine Below.drew ?_) | (with_reducible refine below_drewN' ?_ _) | (with_reducible refine below_al ?_) | ((with_reducible refine below_set ?_ ?_); rotate_left; focus (first | (simp; done) | (simp; omega))))))).mono ?_; rintro e w6 ⟨rfl, hb6⟩
  have hz6 := hb6.size; (try simp at hz6); obtain ⟨hc6, hf6⟩ := bcell hb6; have hB6 := below_step (w := w) hb6 (by repeat (first | assumption | exact Below.refl _ _ | (with_reducible refine Below.drew ?_) | (with_reducible refine below_drewN' ?_ _) | (with_reducible refine below_al ?_) | ((with_reducible refine below_set ?_ ?_); rotate_left; focus (first | (simp; done) | (simp; omega)))))
  have le_w_w6 : w.heap.size ≤ w6.heap.size := by omega
  try have lt_w_w6 : w.heap.size < w6.heap.size := by omega
  have le_w1_w6 : w1.heap.size ≤ w6.heap.size := by omega
  try have lt_w1_w6 : w1.heap.size < w6.heap.size := by omega
  have le_w2_w6 : w2.heap.size ≤ w6.heap.size := by omega
  try have lt_w2_w6 : w2.heap.size < w6.heap.size := by omega
  have le_w3_w6 : w3.heap.size ≤ w6.heap.size := by omega
  try have lt_w3_w6 : w3.heap.size < w6.heap.size := by omega
  have le_w4_w6 : w4.heap.size ≤ w6.heap.size := by omega
  try have lt_w4_w6 : w4.heap.size < w6.heap.size := by omega
  have le_w5_w6 : w5.heap.size ≤ w6.heap.size := by omega
  try have lt_w5_w6 : w5.heap.size < w6.heap.size := by omega
  (try go_simp); repeat (first | ((with_reducible refine wp_region_app ?_); simp only [List.cons_append, List.nil_append]) | go_values | go_skip | go_guarded | go_step | go_upon)
  refine wp_loop_rounds 1 ?_
  rw [rounds_succ]
  (try go_simp); repeat (first | ((with_reducible refine wp_region_app ?_); simp only [List.cons_append, List.nil_append]) | go_values | go_skip | go_guarded | go_step | go_upon)
  have HB13 : Hid (Below w6.heap.size w6 w6) := Lib.hid (Below.refl _ _)
  go_loopw [13] (fun i wr => ∃ k : Nat, (k : Int) ≤ n - b ∧ i = .int .i64 (n - (k : Int)) ∧ Hid (Below w6.heap.size w6 wr)) (fun i _ => (intOf i - b).toNat)
  case atStart => exact ⟨0, by omega, by simp, HB13⟩
  case round =>
    obtain ⟨wt_, rfl⟩ : ∃ W : World, W = wr := ⟨_, rfl⟩
    obtain ⟨k13, hkk13, rfl, hbr13⟩ := hrel
    clear HB13
    obtain ⟨hcwt_, hfwt_⟩ := bcell hbr13.out
    have hzwt_ := hbr13.out.size; (try simp at hzwt_)
    have hBwt_ : Below w.heap.size w wt_ := below_step (w := w) hbr13.out hB6
    have le_w_wt_ : w.heap.size ≤ wt_.heap.size := by omega
    try have lt_w_wt_ : w.heap.size < wt_.heap.size := by omega
    have le_w1_wt_ : w1.heap.size ≤ wt_.heap.size := by omega
    try have lt_w1_wt_ : w1.heap.size < wt_.heap.size := by omega
    have le_w2_wt_ : w2.heap.size ≤ wt_.heap.size := by omega
    try have lt_w2_wt_ : w2.heap.size < wt_.heap.size := by omega
    have le_w3_wt_ : w3.heap.size ≤ wt_.heap.size := by omega
    try have lt_w3_wt_ : w3.heap.size < wt_.heap.size := by omega
    have le_w4_wt_ : w4.heap.size ≤ wt_.heap.size := by omega
    try have lt_w4_wt_ : w4.heap.size < wt_.heap.size := by omega
    have le_w5_wt_ : w5.heap.size ≤ wt_.heap.size := by omega
    try have lt_w5_wt_ : w5.heap.size < wt_.heap.size := by omega
    have le_w6_wt_ : w6.heap.size ≤ wt_.heap.size := by omega
    try have lt_w6_wt_ : w6.heap.size < wt_.heap.size := by omega
    by_cases hlt13 : b < n - (k13 : Int)
    · have hd13 := decide_eq_true hlt13
      have hi13 : Hid (c.is (n - (k13 : Int)) = false) := Lib.hid (hdn.out _ (by omega) (by omega))
      have hwr13 : IntKind.i64.wrap (n - (k13 : Int) - 1) = n - (k13 : Int) - 1 := IntWalk.i64_in _ (by omega)
      (try go_simp); repeat (first | ((with_reducible refine wp_region_app ?_); simp only [List.cons_append, List.nil_append]) | go_values | go_skip | go_guarded | go_step | go_upon)
      refine (rcalIs_c c _ hk.out _ (hc.below (by repeat (first | assumption | exact Below.refl _ _ | (with_reducible refine Below.drew ?_) | (with_reducible refine below_drewN' ?_ _) | (with_reducible refine below_al ?_) | ((with_reducible refine below_set ?_ ?_); rotate_left; focus (first | (simp; done) | (simp; omega))))))).mono ?_; rintro e wq ⟨rfl, hbq⟩
      rw [hi13.out]
      have hnx : Hid (Below w6.heap.size w6 wq) := Lib.hid (hbr13.out.trans (hbq.mono hbr13.out.size))
      (try go_simp); repeat (first | ((with_reducible refine wp_region_app ?_); simp only [List.cons_append, List.nil_append]) | go_values | go_skip | go_guarded | go_step | go_upon)
      refine ⟨?_, ?measure⟩
      (repeat apply Exists.intro)
      refine ⟨?rel, ?fr⟩
      case fr => ((repeat apply Exists.intro); rfl)
      case rel => exact ⟨k13 + 1, by omega, by go_num, hnx⟩
      case measure => simp [intOf]; omega
    · have hd13 := decide_eq_false hlt13
      clear hlt13
      (try go_simp); repeat (first | ((with_reducible refine wp_region_app ?_); simp only [List.cons_append, List.nil_append]) | go_values | go_skip | go_guarded | go_step | go_upon)
      refine (to_c c n k i0.out hk.out _ _ T _ (hL.below (by repeat (first | assumption | exact Below.refl _ _ | (with_reducible refine Below.drew ?_) | (with_reducible refine below_drewN' ?_ _) | (with_reducible refine below_al ?_) | ((with_reducible refine below_set ?_ ?_); rotate_left; focus (first | (simp; done) | (simp; omega)))))) (hc.below (by repeat (first | assumption | exact Below.refl _ _ | (with_reducible refine Below.drew ?_) | (with_reducible refine below_drewN' ?_ _) | (with_reducible refine below_al ?_) | ((with_reducible refine below_set ?_ ?_); rotate_left; focus (first | (simp; done) | (simp; omega))))))).mono ?_; rintro e w7 ⟨rfl, hb7⟩
      have hz7 := hb7.size; (try simp at hz7); obtain ⟨hc7, hf7⟩ := bcell hb7; have hB7 := below_step (w := w) hb7 (by repeat (first | assumption | exact Below.refl _ _ | (with_reducible refine Below.drew ?_) | (with_reducible refine below_drewN' ?_ _) | (with_reducible refine below_al ?_) | ((with_reducible refine below_set ?_ ?_); rotate_left; focus (first | (simp; done) | (simp; omega)))))
      have le_w_w7 : w.heap.size ≤ w7.heap.size := by omega
      try have lt_w_w7 : w.heap.size < w7.heap.size := by omega
      have le_w1_w7 : w1.heap.size ≤ w7.heap.size := by omega
      try have lt_w1_w7 : w1.heap.size < w7.heap.size := by omega
      have le_w2_w7 : w2.heap.size ≤ w7.heap.size := by omega
      try have lt_w2_w7 : w2.heap.size < w7.heap.size := by omega
      have le_w3_w7 : w3.heap.size ≤ w7.heap.size := by omega
      try have lt_w3_w7 : w3.heap.size < w7.heap.size := by omega
      have le_w4_w7 : w4.heap.size ≤ w7.heap.size := by omega
      try have lt_w4_w7 : w4.heap.size < w7.heap.size := by omega
      have le_w5_w7 : w5.heap.size ≤ w7.heap.size := by omega
      try have lt_w5_w7 : w5.heap.size < w7.heap.size := by omega
      have le_w6_w7 : w6.heap.size ≤ w7.heap.size := by omega
      try have lt_w6_w7 : w6.heap.size < w7.heap.size := by omega
      have le_wt__w7 : wt_.heap.size ≤ w7.heap.size := by omega
      try have lt_wt__w7 : wt_.heap.size < w7.heap.size := by omega
      (try go_simp); repeat (first | ((with_reducible refine wp_region_app ?_); simp only [List.cons_append, List.nil_append]) | go_values | go_skip | go_guarded | go_step | go_upon)
      refine (rcalIs_c c n hk.out _ (hc.below (by repeat (first | assumption | exact Below.refl _ _ | (with_reducible refine Below.drew ?_) | (with_reducible refine below_drewN' ?_ _) | (with_reducible refine below_al ?_) | ((with_reducible refine below_set ?_ ?_); rotate_left; focus (first | (simp; done) | (simp; omega))))))).mono ?_; rintro e w8 ⟨rfl, hb8⟩
      have hz8 := hb8.size; (try simp at hz8); obtain ⟨hc8, hf8⟩ := bcell hb8; have hB8 := below_step (w := w) hb8 (by repeat (first | assumption | exact Below.refl _ _ | (with_reducible refine Below.drew ?_) | (with_reducible refine below_drewN' ?_ _) | (with_reducible refine below_al ?_) | ((with_reducible refine below_set ?_ ?_); rotate_left; focus (first | (simp; done) | (simp; omega)))))
      have le_w_w8 : w.heap.size ≤ w8.heap.size := by omega
      try have lt_w_w8 : w.heap.size < w8.heap.size := by omega
      have le_w1_w8 : w1.heap.size ≤ w8.heap.size := by omega
      try have lt_w1_w8 : w1.heap.size < w8.heap.size := by omega
      have le_w2_w8 : w2.heap.size ≤ w8.heap.size := by omega
      try have lt_w2_w8 : w2.heap.size < w8.heap.size := by omega
      have le_w3_w8 : w3.heap.size ≤ w8.heap.size := by omega
      try have lt_w3_w8 : w3.heap.size < w8.heap.size := by omega
      have le_w4_w8 : w4.heap.size ≤ w8.heap.size := by omega
      try have lt_w4_w8 : w4.heap.size < w8.heap.size := by omega
      have le_w5_w8 : w5.heap.size ≤ w8.heap.size := by omega
      try have lt_w5_w8 : w5.heap.size < w8.heap.size := by omega
      have le_w6_w8 : w6.heap.size ≤ w8.heap.size := by omega
      try have lt_w6_w8 : w6.heap.size < w8.heap.size := by omega
      have le_wt__w8 : wt_.heap.size ≤ w8.heap.size := by omega
      try have lt_wt__w8 : wt_.heap.size < w8.heap.size := by omega
      have le_w7_w8 : w7.heap.size ≤ w8.heap.size := by omega
      try have lt_w7_w8 : w7.heap.size < w8.heap.size := by omega
      (try go_simp); repeat (first | ((with_reducible refine wp_region_app ?_); simp only [List.cons_append, List.nil_append]) | go_values | go_skip | go_guarded | go_step | go_upon)
      go_ret
      exact ⟨rfl, by repeat (first | assumption | exact Below.refl _ _ | (with_reducible refine Below.drew ?_) | (with_reducible refine below_drewN' ?_ _) | (with_reducible refine below_al ?_) | ((with_reducible refine below_set ?_ ?_); rotate_left; focus (first | (simp; done) | (simp; omega))))⟩
set_option maxRecDepth 100000 in
set_option maxHeartbeats 8000000 in
theorem rollNearest_103 (c : CalP) (n q : Int) (hf : c.few = true) (hm : c.may = true) (dy : dayB n = true) (n1 : 1 ≤ n) (n2 : n ≤ 3652059) (hi : c.is n = false) (i0 : Hid (I64 n)) (k : Int) (z2 : IntKind.i64.wrap q = q) (hqk : q.tmod 5 = k) (a e b f x g : Int) (U : Hid (sk c 1 61 n = (0, e))) (V : Hid (sk c (-1) 61 n = (b, 0))) (e0 : (e == 0) = false) (b1 : b < n) (b2 : n - 60 ≤ b) (b3 : 1 ≤ b) (bi : c.is b = true) (hdn : Hid (∀ i : Int, b < i → i ≤ n → c.is i = false)) (T : Hid (rl c n k = (b, 0))) (w : World) (hL : Laid w) (hN : Named w) (hc : CalIn w c) : Calls Tryd.prog 4 #[.agg #[.bool c.o0, .bool c.o1, .bool c.o2, .bool c.o3, .bool c.o4, .bool c.o5, .bool c.o6, .slice c.A c.rs.length c.cR, .slice c.D c.ds.length c.cD], .int .i64 n, .int .u8 q] w fun e w' => e = .returned (.bool true) ∧ Below w.heap.size w w' := by
  have hk := Lib.hid (CalP.ok hm)
  have s1 : IntKind.i64.wrap (n + 60) = n + 60 := IntWalk.i64_in _ (by omega)
  have s2 : IntKind.i64.wrap (n - 60) = n - 60 := IntWalk.i64_in _ (by omega)
  have t1 : decide (n < 0) = false := decide_eq_false (by omega)
  have t3 : decide (n < b) = false := decide_eq_false (by omega)
  have t4 : decide (b < n - 60) = false := decide_eq_false (by omega)
  have u1 : (b == n) = false := beqF (by omega)
  have u2 : (b == 0) = false := beqF (by omega)
  have hB : Below w.heap.size w w := Below.refl _ _
  go_enter Tryd.func4, Tryd.ntmps4
  (try go_simp); repeat (first | ((with_reducible refine wp_region_app ?_); simp only [List.cons_append, List.nil_append]) | go_values | go_skip | go_guarded | go_step | go_upon)
  refine (shown14_c _ (hL.below (by repeat (first | assumption | exact Below.refl _ _ | (with_reducible refine Below.drew ?_) | (with_reducible refine below_drewN' ?_ _) | (with_reducible refine below_al ?_) | ((with_reducible refine below_set ?_ ?_); rotate_left; focus (first | (simp; done) | (simp; omega)))))) (hN.below (by repeat (first | assumption | exact Below.refl _ _ | (with_reducible refine Below.drew ?_) | (with_reducible refine below_drewN' ?_ _) | (with_reducible refine below_al ?_) | ((with_reducible refine below_set ?_ ?_); rotate_left; focus (first | (simp; done) | (simp; omega))))))).mono ?_; rintro e w1 ⟨rfl, hb1⟩
  have hz1 := hb1.size; (try simp at hz1); obtain ⟨hc1, hf1⟩ := bcell hb1; have hB1 := below_step (w := w) hb1 (by repeat (first | assumption | exact Below.refl _ _ | (with_reducible refine Below.drew ?_) | (with_reducible refine below_drewN' ?_ _) | (with_reducible refine below_al ?_) | ((with_reducible refine below_set ?_ ?_); rotate_left; focus (first | (simp; done) | (simp; omega)))))
  have le_w_w1 : w.heap.size ≤ w1.heap.size := by omega
  try have lt_w_w1 : w.heap.size < w1.heap.size := by omega
  (try go_simp); repeat (first | ((with_reducible refine wp_region_app ?_); simp only [List.cons_append, List.nil_append]) | go_values | go_skip | go_guarded | go_step | go_upon)
  refine (few_c c _).mono ?_; rintro e w2 ⟨rfl, hb2⟩
  have hz2 := hb2.size; (try simp at hz2); obtain ⟨hc2, hf2⟩ := bcell hb2; have hB2 := below_step (w := w) hb2 (by repeat (first | assumption | exact Below.refl _ _ | (with_reducible refine Below.drew ?_) | (with_reducible refine below_drewN' ?_ _) | (with_reducible refine below_al ?_) | ((with_reducible refine below_set ?_ ?_); rotate_left; focus (first | (simp; done) | (simp; omega)))))
  have le_w_w2 : w.heap.size ≤ w2.heap.size := by omega
  try have lt_w_w2 : w.heap.size < w2.heap.size := by omega
  have le_w1_w2 : w1.heap.size ≤ w2.heap.size := by omega
  try have lt_w1_w2 : w1.heap.size < w2.heap.size := by omega
  (try go_simp); repeat (first | ((with_reducible refine wp_region_app ?_); simp only [List.cons_append, List.nil_append]) | go_values | go_skip | go_guarded | go_step | go_upon)
  refine (rcalMay_c c _ (hc.below (by repeat (first | assumption | exact Below.refl _ _ | (with_reducible refine Below.drew ?_) | (with_reducible refine below_drewN' ?_ _) | (with_reducible refine below_al ?_) | ((with_reducible refine below_set ?_ ?_); rotate_left; focus (first | (simp; done) | (simp; omega))))))).mono ?_; rintro e w3 ⟨rfl, hb3⟩
  have hz3 := hb3.size; (try simp at hz3); obtain ⟨hc3, hf3⟩ := bcell hb3; have hB3 := below_step (w := w) hb3 (by repeat (first | assumption | exact Below.refl _ _ | (with_reducible refine Below.drew ?_) | (with_reducible refine below_drewN' ?_ _) | (with_reducible refine below_al ?_) | ((with_reducible refine below_set ?_ ?_); rotate_left; focus (first | (simp; done) | (simp; omega)))))
  have le_w_w3 : w.heap.size ≤ w3.heap.size := by omega
  try have lt_w_w3 : w.heap.size < w3.heap.size := by omega
  have le_w1_w3 : w1.heap.size ≤ w3.heap.size := by omega
  try have lt_w1_w3 : w1.heap.size < w3.heap.size := by omega
  have le_w2_w3 : w2.heap.size ≤ w3.heap.size := by omega
  try have lt_w2_w3 : w2.heap.size < w3.heap.size := by omega
  (try go_simp); repeat (first | ((with_reducible refine wp_region_app ?_); simp only [List.cons_append, List.nil_append]) | go_values | go_skip | go_guarded | go_step | go_upon)
  refine (rday_c _ _).mono ?_; rintro e w' ⟨rfl, rfl⟩
  (try go_simp); repeat (first | ((with_reducible refine wp_region_app ?_); simp only [List.cons_append, List.nil_append]) | go_values | go_skip | go_guarded | go_step | go_upon)
  refine (next_c c n i0.out hk.out _ _ U _ (hL.below (by repeat (first | assumption | exact Below.refl _ _ | (with_reducible refine Below.drew ?_) | (with_reducible refine below_drewN' ?_ _) | (with_reducible refine below_al ?_) | ((with_reducible refine below_set ?_ ?_); rotate_left; focus (first | (simp; done) | (simp; omega)))))) (hc.below (by repeat (first | assumption | exact Below.refl _ _ | (with_reducible refine Below.drew ?_) | (with_reducible refine below_drewN' ?_ _) | (with_reducible refine below_al ?_) | ((with_reducible refine below_set ?_ ?_); rotate_left; focus (first | (simp; done) | (simp; omega))))))).mono ?_; rintro e w4 ⟨rfl, hb4⟩
  have hz4 := hb4.size; (try simp at hz4); obtain ⟨hc4, hf4⟩ := bcell hb4; have hB4 := below_step (w := w) hb4 (by repeat (first | assumption | exact Below.refl _ _ | (with_reducible refine Below.drew ?_) | (with_reducible refine below_drewN' ?_ _) | (with_reducible refine below_al ?_) | ((with_reducible refine below_set ?_ ?_); rotate_left; focus (first | (simp; done) | (simp; omega)))))
  have le_w_w4 : w.heap.size ≤ w4.heap.size := by omega
  try have lt_w_w4 : w.heap.size < w4.heap.size := by omega
  have le_w1_w4 : w1.heap.size ≤ w4.heap.size := by omega
  try have lt_w1_w4 : w1.heap.size < w4.heap.size := by omega
  have le_w2_w4 : w2.heap.size ≤ w4.heap.size := by omega
  try have lt_w2_w4 : w2.heap.size < w4.heap.size := by omega
  have le_w3_w4 : w3.heap.size ≤ w4.heap.size := by omega
  try have lt_w3_w4 : w3.heap.size < w4.heap.size := by omega
  (try go_simp); repeat (first | ((with_reducible refine wp_region_app ?_); simp only [List.cons_append, List.nil_append]) | go_values | go_skip | go_guarded | go_step | go_upon)
  refine (prev_c c n i0.out hk.out _ _ V _ (hL.below (by repeat (first | assumption | exact Below.refl _ _ | (with_reducible refine Below.drew ?_) | (with_reducible refine below_drewN' ?_ _) | (with_reducible refine below_al ?_) | ((with_reducible refine below_set ?_ ?_); rotate_left; focus (first | (simp; done) | (simp; omega)))))) (hc.below (by repeat (first | assumption | exact Below.refl _ _ | (with_reducible refine Below.drew ?_) | (with_reducible refine below_drewN' ?_ _) | (with_reducible refine below_al ?_) | ((with_reducible refine below_set ?_ ?_); rotate_left; focus (first | (simp; done) | (simp; omega))))))).mono ?_; rintro e w5 ⟨rfl, hb5⟩
  have hz5 := hb5.size; (try simp at hz5); obtain ⟨hc5, hf5⟩ := bcell hb5; have hB5 := below_step (w := w) hb5 (by repeat (first | assumption | exact Below.refl _ _ | (with_reducible refine Below.drew ?_) | (with_reducible refine below_drewN' ?_ _) | (with_reducible refine below_al ?_) | ((with_reducible refine below_set ?_ ?_); rotate_left; focus (first | (simp; done) | (simp; omega)))))
  have le_w_w5 : w.heap.size ≤ w5.heap.size := by omega
  try have lt_w_w5 : w.heap.size < w5.heap.size := by omega
  have le_w1_w5 : w1.heap.size ≤ w5.heap.size := by omega
  try have lt_w1_w5 : w1.heap.size < w5.heap.size := by omega
  have le_w2_w5 : w2.heap.size ≤ w5.heap.size := by omega
  try have lt_w2_w5 : w2.heap.size < w5.heap.size := by omega
  have le_w3_w5 : w3.heap.size ≤ w5.heap.size := by omega
  try have lt_w3_w5 : w3.heap.size < w5.heap.size := by omega
  have le_w4_w5 : w4.heap.size ≤ w5.heap.size := by omega
  try have lt_w4_w5 : w4.heap.size < w5.heap.size := by omega
  (try go_simp); repeat (first | ((with_reducible refine wp_region_app ?_); simp only [List.cons_append, List.nil_append]) | go_values | go_skip | go_guarded | go_step | go_upon)
  refine (rcalIs_c c b hk.out _ (hc.below (by repeat (first | assumption | exact Below.refl _ _ | (with_reducible refine Below.drew ?_) | (with_reducible refine below_drewN' ?_ _) | (with_reducible refine below_al ?_) | ((with_reducible refine below_set ?_ ?_); rotate_left; focus (first | (simp; done) | (simp; omega))))))).mono ?_; rintro e w6 ⟨rfl, hb6⟩
  have hz6 := hb6.size; (try simp at hz6); obtain ⟨hc6, hf6⟩ := bcell hb6; have hB6 := below_step (w := w) hb6 (by repeat (first | assumption | exact Below.refl _ _ | (with_reducible refine Below.drew ?_) | (with_reducible refine below_drewN' ?_ _) | (with_reducible refine below_al ?_) | ((with_reducible refine below_set ?_ ?_); rotate_left; focus (first | (simp; done) | (simp; omega)))))
  have le_w_w6 : w.heap.size ≤ w6.heap.size := by omega
  try have lt_w_w6 : w.heap.size < w6.heap.size := by omega
  have le_w1_w6 : w1.heap.size ≤ w6.heap.size := by omega
  try have lt_w1_w6 : w1.heap.size < w6.heap.size := by omega
  have le_w2_w6 : w2.heap.size ≤ w6.heap.size := by omega
  try have lt_w2_w6 : w2.heap.size < w6.heap.size := by omega
  have le_w3_w6 : w3.heap.size ≤ w6.heap.size := by omega
  try have lt_w3_w6 : w3.heap.size < w6.heap.size := by omega
  have le_w4_w6 : w4.heap.size ≤ w6.heap.size := by omega
  try have lt_w4_w6 : w4.heap.size < w6.heap.size := by omega
  have le_w5_w6 : w5.heap.size ≤ w6.heap.size := by omega
  try have lt_w5_w6 : w5.heap.size < w6.heap.size := by omega
  (try go_simp); repeat (first | ((with_reducible refine wp_region_app ?_); simp only [List.cons_append, List.nil_append]) | go_values | go_skip | go_guarded | go_step | go_upon)
  refine wp_loop_rounds 1 ?_
  rw [rounds_succ]
  (try go_simp); repeat (first | ((with_reducible refine wp_region_app ?_); simp only [List.cons_append, List.nil_append]) | go_values | go_skip | go_guarded | go_step | go_upon)
  have HB13 : Hid (Below w6.heap.size w6 w6) := Lib.hid (Below.refl _ _)
  go_loopw [13] (fun i wr => ∃ k : Nat, (k : Int) ≤ n - b ∧ i = .int .i64 (n - (k : Int)) ∧ Hid (Below w6.heap.size w6 wr)) (fun i _ => (intOf i - b).toNat)
  case atStart => exact ⟨0, by omega, by simp, HB13⟩
  case round =>
    obtain ⟨wt_, rfl⟩ : ∃ W : World, W = wr := ⟨_, rfl⟩
    obtain ⟨k13, hkk13, rfl, hbr13⟩ := hrel
    clear HB13
    obtain ⟨hcwt_, hfwt_⟩ := bcell hbr13.out
    have hzwt_ := hbr13.out.size; (try simp at hzwt_)
    have hBwt_ : Below w.heap.size w wt_ := below_step (w := w) hbr13.out hB6
    have le_w_wt_ : w.heap.size ≤ wt_.heap.size := by omega
    try have lt_w_wt_ : w.heap.size < wt_.heap.size := by omega
    have le_w1_wt_ : w1.heap.size ≤ wt_.heap.size := by omega
    try have lt_w1_wt_ : w1.heap.size < wt_.heap.size := by omega
    have le_w2_wt_ : w2.heap.size ≤ wt_.heap.size := by omega
    try have lt_w2_wt_ : w2.heap.size < wt_.heap.size := by omega
    have le_w3_wt_ : w3.heap.size ≤ wt_.heap.size := by omega
    try have lt_w3_wt_ : w3.heap.size < wt_.heap.size := by omega
    have le_w4_wt_ : w4.heap.size ≤ wt_.heap.size := by omega
    try have lt_w4_wt_ : w4.heap.size < wt_.heap.size := by omega
    have le_w5_wt_ : w5.heap.size ≤ wt_.heap.size := by omega
    try have lt_w5_wt_ : w5.heap.size < wt_.heap.size := by omega
    have le_w6_wt_ : w6.heap.size ≤ wt_.heap.size := by omega
    try have lt_w6_wt_ : w6.heap.size < wt_.heap.size := by omega
    by_cases hlt13 : b < n - (k13 : Int)
    · have hd13 := decide_eq_true hlt13
      have hi13 : Hid (c.is (n - (k13 : Int)) = false) := Lib.hid (hdn.out _ (by omega) (by omega))
      have hwr13 : IntKind.i64.wrap (n - (k13 : Int) - 1) = n - (k13 : Int) - 1 := IntWalk.i64_in _ (by omega)
      (try go_simp); repeat (first | ((with_reducible refine wp_region_app ?_); simp only [List.cons_append, List.nil_append]) | go_values | go_skip | go_guarded | go_step | go_upon)
      refine (rcalIs_c c _ hk.out _ (hc.below (by repeat (first | assumption | exact Below.refl _ _ | (with_reducible refine Below.drew ?_) | (with_reducible refine below_drewN' ?_ _) | (with_reducible refine below_al ?_) | ((with_reducible refine below_set ?_ ?_); rotate_left; focus (first | (simp; done) | (simp; omega))))))).mono ?_; rintro e wq ⟨rfl, hbq⟩
      rw [hi13.out]
      have hnx : Hid (Below w6.heap.size w6 wq) := Lib.hid (hbr13.out.trans (hbq.mono hbr13.out.size))
      (try go_simp); repeat (first | ((with_reducible refine wp_region_app ?_); simp only [List.cons_append, List.nil_append]) | go_values | go_skip | go_guarded | go_step | go_upon)
      refine ⟨?_, ?measure⟩
      (repeat apply Exists.intro)
      refine ⟨?rel, ?fr⟩
      case fr => ((repeat apply Exists.intro); rfl)
      case rel => exact ⟨k13 + 1, by omega, by go_num, hnx⟩
      case measure => simp [intOf]; omega
    · have hd13 := decide_eq_false hlt13
      clear hlt13
      (try go_simp); repeat (first | ((with_reducible refine wp_region_app ?_); simp only [List.cons_append, List.nil_append]) | go_values | go_skip | go_guarded | go_step | go_upon)
      refine (to_c c n k i0.out hk.out _ _ T _ (hL.below (by repeat (first | assumption | exact Below.refl _ _ | (with_reducible refine Below.drew ?_) | (with_reducible refine below_drewN' ?_ _) | (with_reducible refine below_al ?_) | ((with_reducible refine below_set ?_ ?_); rotate_left; focus (first | (simp; done) | (simp; omega)))))) (hc.below (by repeat (first | assumption | exact Below.refl _ _ | (with_reducible refine Below.drew ?_) | (with_reducible refine below_drewN' ?_ _) | (with_reducible refine below_al ?_) | ((with_reducible refine below_set ?_ ?_); rotate_left; focus (first | (simp; done) | (simp; omega))))))).mono ?_; rintro e w7 ⟨rfl, hb7⟩
      have hz7 := hb7.size; (try simp at hz7); obtain ⟨hc7, hf7⟩ := bcell hb7; have hB7 := below_step (w := w) hb7 (by repeat (first | assumption | exact Below.refl _ _ | (with_reducible refine Below.drew ?_) | (with_reducible refine below_drewN' ?_ _) | (with_reducible refine below_al ?_) | ((with_reducible refine below_set ?_ ?_); rotate_left; focus (first | (simp; done) | (simp; omega)))))
      have le_w_w7 : w.heap.size ≤ w7.heap.size := by omega
      try have lt_w_w7 : w.heap.size < w7.heap.size := by omega
      have le_w1_w7 : w1.heap.size ≤ w7.heap.size := by omega
      try have lt_w1_w7 : w1.heap.size < w7.heap.size := by omega
      have le_w2_w7 : w2.heap.size ≤ w7.heap.size := by omega
      try have lt_w2_w7 : w2.heap.size < w7.heap.size := by omega
      have le_w3_w7 : w3.heap.size ≤ w7.heap.size := by omega
      try have lt_w3_w7 : w3.heap.size < w7.heap.size := by omega
      have le_w4_w7 : w4.heap.size ≤ w7.heap.size := by omega
      try have lt_w4_w7 : w4.heap.size < w7.heap.size := by omega
      have le_w5_w7 : w5.heap.size ≤ w7.heap.size := by omega
      try have lt_w5_w7 : w5.heap.size < w7.heap.size := by omega
      have le_w6_w7 : w6.heap.size ≤ w7.heap.size := by omega
      try have lt_w6_w7 : w6.heap.size < w7.heap.size := by omega
      have le_wt__w7 : wt_.heap.size ≤ w7.heap.size := by omega
      try have lt_wt__w7 : wt_.heap.size < w7.heap.size := by omega
      (try go_simp); repeat (first | ((with_reducible refine wp_region_app ?_); simp only [List.cons_append, List.nil_append]) | go_values | go_skip | go_guarded | go_step | go_upon)
      refine (rcalIs_c c n hk.out _ (hc.below (by repeat (first | assumption | exact Below.refl _ _ | (with_reducible refine Below.drew ?_) | (with_reducible refine below_drewN' ?_ _) | (with_reducible refine below_al ?_) | ((with_reducible refine below_set ?_ ?_); rotate_left; focus (first | (simp; done) | (simp; omega))))))).mono ?_; rintro e w8 ⟨rfl, hb8⟩
      have hz8 := hb8.size; (try simp at hz8); obtain ⟨hc8, hf8⟩ := bcell hb8; have hB8 := below_step (w := w) hb8 (by repeat (first | assumption | exact Below.refl _ _ | (with_reducible refine Below.drew ?_) | (with_reducible refine below_drewN' ?_ _) | (with_reducible refine below_al ?_) | ((with_reducible refine below_set ?_ ?_); rotate_left; focus (first | (simp; done) | (simp; omega)))))
      have le_w_w8 : w.heap.size ≤ w8.heap.size := by omega
      try have lt_w_w8 : w.heap.size < w8.heap.size := by omega
      have le_w1_w8 : w1.heap.size ≤ w8.heap.size := by omega
      try have lt_w1_w8 : w1.heap.size < w8.heap.size := by omega
      have le_w2_w8 : w2.heap.size ≤ w8.heap.size := by omega
      try have lt_w2_w8 : w2.heap.size < w8.heap.size := by omega
      have le_w3_w8 : w3.heap.size ≤ w8.heap.size := by omega
      try have lt_w3_w8 : w3.heap.size < w8.heap.size := by omega
      have le_w4_w8 : w4.heap.size ≤ w8.heap.size := by omega
      try have lt_w4_w8 : w4.heap.size < w8.heap.size := by omega
      have le_w5_w8 : w5.heap.size ≤ w8.heap.size := by omega
      try have lt_w5_w8 : w5.heap.size < w8.heap.size := by omega
      have le_w6_w8 : w6.heap.size ≤ w8.heap.size := by omega
      try have lt_w6_w8 : w6.heap.size < w8.heap.size := by omega
      have le_wt__w8 : wt_.heap.size ≤ w8.heap.size := by omega
      try have lt_wt__w8 : wt_.heap.size < w8.heap.size := by omega
      have le_w7_w8 : w7.heap.size ≤ w8.heap.size := by omega
      try have lt_w7_w8 : w7.heap.size < w8.heap.size := by omega
      (try go_simp); repeat (first | ((with_reducible refine wp_region_app ?_); simp only [List.cons_append, List.nil_append]) | go_values | go_skip | go_guarded | go_step | go_upon)
      go_ret
      exact ⟨rfl, by repeat (first | assumption | exact Below.refl _ _ | (with_reducible refine Below.drew ?_) | (with_reducible refine below_drewN' ?_ _) | (with_reducible refine below_al ?_) | ((with_reducible refine below_set ?_ ?_); rotate_left; focus (first | (simp; done) | (simp; omega))))⟩
end Go.Proofs.YtlilffoflkkbdaaDoor
