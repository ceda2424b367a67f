/- Fractions of the program: two wide numbers told as a fraction; a fraction of two numbers in lowest terms. Conditions: the numbers are within the bounds. -/
import Derived.Test.YtjcjchapfiokeaaDoorWid
import Derived.Test.YtjcjchapfiokeaaDoorRatA
import Derived.Test.YtjcjchapfiokeaaDoorThi
import Derived.Deep.RegionWith
namespace Go.Proofs.YtjcjchapfiokeaaDoor
open Go.RowKit
set_option linter.unusedVariables false
set_option linter.unusedSimpArgs false
theorem cmp_top {n : Nat} (h : n ≤ 4611686018427387904) : decide (0 < cmpI n 4611686018427387904) = false := by
  refine decide_eq_false ?_
  unfold cmpI
  split
  · omega
  · rw [if_neg (by omega)]; omega
theorem wtop_c (n : Nat) (w : World) : Calls Tryd.prog 101 #[.agg #[.int .u64 0, .int .u64 (n : Int)], .agg #[.int .u64 0, .int .u64 4611686018427387904]] w fun e w' => e = .returned (.int .i64 (cmpI n 4611686018427387904)) ∧ Below w.heap.size w w' := wcmp_c n 4611686018427387904 w
set_option maxHeartbeats 2000000 in
theorem rtold_c (n d : Nat) (hn : n ≤ 4611686018427387904) (hd : d ≤ 4611686018427387904) (w : World) : Calls Tryd.prog 95 #[.agg #[.int .u64 0, .int .u64 (n : Int)], .agg #[.int .u64 0, .int .u64 (d : Int)]] w fun e w' => e = .returned (.tuple #[.agg #[.int .i64 (n : Int), .int .i64 (d : Int)], .int .i64 0]) ∧ Below w.heap.size w w' := by
  have c1 := cmp_top hn
  have c2 := cmp_top hd
  have i1 : IntKind.i64.wrap (n : Int) = (n : Int) := IntWalk.i64_in _ (by omega)
  have i2 : IntKind.i64.wrap (d : Int) = (d : Int) := IntWalk.i64_in _ (by omega)
  have hB : Below w.heap.size w w := Below.refl _ _
  go_enter Tryd.func95, Tryd.ntmps95
  go_wp2_with fail
  refine (wof_c _ _).mono ?_; rintro e w1 ⟨rfl, hb1⟩
  have hz1 := hb1.size; (try simp at hz1); obtain ⟨hc1, hf1⟩ := bcell hb1; have hB1 := below_step (w := w) hb1 (by repeat (first | assumption | exact Below.refl _ _ | (with_reducible refine Below.drew ?_) | (with_reducible refine below_drewN' ?_ _) | (with_reducible refine below_al ?_) | ((with_reducible refine below_set ?_ ?_); rotate_left; focus (first | (simp; done) | (simp; omega)))))
  have le_w_w1 : w.heap.size ≤ w1.heap.size := by omega
  try have lt_w_w1 : w.heap.size < w1.heap.size := by omega
  have le1_w_w1 : w.heap.size + 1 ≤ w1.heap.size := by omega
  try have lt1_w_w1 : w.heap.size + 1 < w1.heap.size := by omega
  have le2_w_w1 : w.heap.size + 2 ≤ w1.heap.size := by omega
  try have lt2_w_w1 : w.heap.size + 2 < w1.heap.size := by omega
  go_wp2_with fail
  refine (wtop_c _ _).mono ?_; rintro e w2 ⟨rfl, hb2⟩
  have hz2 := hb2.size; (try simp at hz2); obtain ⟨hc2, hf2⟩ := bcell hb2; have hB2 := below_step (w := w) hb2 (by repeat (first | assumption | exact Below.refl _ _ | (with_reducible refine Below.drew ?_) | (with_reducible refine below_drewN' ?_ _) | (with_reducible refine below_al ?_) | ((with_reducible refine below_set ?_ ?_); rotate_left; focus (first | (simp; done) | (simp; omega)))))
  have le_w_w2 : w.heap.size ≤ w2.heap.size := by omega
  try have lt_w_w2 : w.heap.size < w2.heap.size := by omega
  have le1_w_w2 : w.heap.size + 1 ≤ w2.heap.size := by omega
  try have lt1_w_w2 : w.heap.size + 1 < w2.heap.size := by omega
  have le2_w_w2 : w.heap.size + 2 ≤ w2.heap.size := by omega
  try have lt2_w_w2 : w.heap.size + 2 < w2.heap.size := by omega
  have le_w1_w2 : w1.heap.size ≤ w2.heap.size := by omega
  try have lt_w1_w2 : w1.heap.size < w2.heap.size := by omega
  go_wp2_with fail
  refine (wtop_c _ _).mono ?_; rintro e w3 ⟨rfl, hb3⟩
  have hz3 := hb3.size; (try simp at hz3); obtain ⟨hc3, hf3⟩ := bcell hb3; have hB3 := below_step (w := w) hb3 (by repeat (first | assumption | exact Below.refl _ _ | (with_reducible refine Below.drew ?_) | (with_reducible refine below_drewN' ?_ _) | (with_reducible refine below_al ?_) | ((with_reducible refine below_set ?_ ?_); rotate_left; focus (first | (simp; done) | (simp; omega)))))
  have le_w_w3 : w.heap.size ≤ w3.heap.size := by omega
  try have lt_w_w3 : w.heap.size < w3.heap.size := by omega
  have le1_w_w3 : w.heap.size + 1 ≤ w3.heap.size := by omega
  try have lt1_w_w3 : w.heap.size + 1 < w3.heap.size := by omega
  have le2_w_w3 : w.heap.size + 2 ≤ w3.heap.size := by omega
  try have lt2_w_w3 : w.heap.size + 2 < w3.heap.size := by omega
  have le_w1_w3 : w1.heap.size ≤ w3.heap.size := by omega
  try have lt_w1_w3 : w1.heap.size < w3.heap.size := by omega
  have le_w2_w3 : w2.heap.size ≤ w3.heap.size := by omega
  try have lt_w2_w3 : w2.heap.size < w3.heap.size := by omega
  have g0 := below_some hb3 _ _ _ (below_some hb2 _ _ _ (cell_al (below_some hb1 _ _ _ (cell_nu (k := w.heap.size + 1 + 1) (i := 0) (by simp) rfl))))
  have g1 := below_some hb3 _ _ _ (below_some hb2 _ _ _ (cell_al (below_some hb1 _ _ _ (cell_nu (k := w.heap.size + 1 + 1) (i := 1) (by simp) rfl))))
  go_wp2_with fail
  refine bodyPost_ret (v := .tuple #[.agg #[.int .i64 (n : Int), .int .i64 (d : Int)], .int .i64 0]) (by simp [results, Tryd.results95, go_sem, g0, g1]) rfl ⟨rfl, ?_⟩
  repeat (first | assumption | exact Below.refl _ _ | (with_reducible refine Below.drew ?_) | (with_reducible refine below_drewN' ?_ _) | (with_reducible refine below_al ?_) | ((with_reducible refine below_set ?_ ?_); rotate_left; focus (first | (simp; done) | (simp; omega))))
set_option maxHeartbeats 4000000 in
theorem rnew_c (n d : Nat) (hn : n ≤ 4611686018427387904) (h0 : 0 < d) (hd : d ≤ 4611686018427387904) (w : World) : Calls Tryd.prog 81 #[.int .i64 (n : Int), .int .i64 (d : Int)] w fun e w' => e = .returned (.tuple #[.agg #[.int .i64 (Thi.rN n d), .int .i64 (Thi.rD n d)], .int .i64 0]) ∧ Below w.heap.size w w' := by
  have d1 : decide ((n : Int) < 0) = false := decide_eq_false (by omega)
  have d2 : decide ((d : Int) < 0) = false := decide_eq_false (by omega)
  have d3 : ((d : Int) == 0) = false := beq_eq_false_iff_ne.2 (by omega)
  have i1 : IntKind.u64.wrap (n : Int) = (n : Int) := IntWalk.u64_in _ (by omega)
  have i2 : IntKind.u64.wrap (d : Int) = (d : Int) := IntWalk.u64_in _ (by omega)
  have hg : 0 < Nat.gcd n d := Nat.gcd_pos_of_pos_right _ h0
  have g0 : ¬ ((Nat.gcd n d : Nat) : Int) = 0 := by omega
  have g1 : Nat.gcd n d ≤ d := Nat.le_of_dvd h0 (Nat.gcd_dvd_right n d)
  have p1 : n / Nat.gcd n d ≤ n := Nat.div_le_self _ _
  have p2 : d / Nat.gcd n d ≤ d := Nat.div_le_self _ _
  have q1 : ((n : Int)).tdiv ((Nat.gcd n d : Nat) : Int) = ((n / Nat.gcd n d : Nat) : Int) := by rw [Int.tdiv_eq_ediv_of_nonneg (Int.natCast_nonneg _)]; simp
  have q2 : ((d : Int)).tdiv ((Nat.gcd n d : Nat) : Int) = ((d / Nat.gcd n d : Nat) : Int) := by rw [Int.tdiv_eq_ediv_of_nonneg (Int.natCast_nonneg _)]; simp
  have HG := gcd_c n d (by omega) (by omega)
  show Calls Tryd.prog 81 #[.int .i64 (n : Int), .int .i64 (d : Int)] w fun e w' => e = .returned (.tuple #[.agg #[.int .i64 ((n / Nat.gcd n d : Nat) : Int), .int .i64 ((d / Nat.gcd n d : Nat) : Int)], .int .i64 0]) ∧ Below w.heap.size w w'
  generalize Nat.gcd n d = g at *
  generalize n / g = a at *
  generalize d / g = b at *
  have j1 : IntKind.u64.wrap (a : Int) = (a : Int) := IntWalk.u64_in _ (by omega)
  have j2 : IntKind.u64.wrap (b : Int) = (b : Int) := IntWalk.u64_in _ (by omega)
  have hB : Below w.heap.size w w := Below.refl _ _
  go_enter Tryd.func81, Tryd.ntmps81
  go_wp2_with fail
  refine (HG _).mono ?_; rintro e w1 ⟨rfl, hb1⟩
  have hz1 := hb1.size; (try simp at hz1); obtain ⟨hc1, hf1⟩ := bcell hb1; have hB1 := below_step (w := w) hb1 (by repeat (first | assumption | exact Below.refl _ _ | (with_reducible refine Below.drew ?_) | (with_reducible refine below_drewN' ?_ _) | (with_reducible refine below_al ?_) | ((with_reducible refine below_set ?_ ?_); rotate_left; focus (first | (simp; done) | (simp; omega)))))
  have le_w_w1 : w.heap.size ≤ w1.heap.size := by omega
  try have lt_w_w1 : w.heap.size < w1.heap.size := by omega
  have hR : Below w1.heap.size w1 w1 := Below.refl _ _
  have G0 := below_some hb1 _ _ _ (cell_nu (k := w.heap.size) (i := 0) rfl rfl)
  have G1 := below_some hb1 _ _ _ (cell_nu (k := w.heap.size) (i := 1) rfl rfl)
  have F0 := (hb1.frozen (p := ⟨w.heap.size, 0, none⟩) (by simp)).trans (blk_free (blk_nu rfl))
  have F1 := (hb1.frozen (p := ⟨w.heap.size, 1, none⟩) (by simp)).trans (blk_free (blk_nu rfl))
  go_wp2_with fail
  go_region_with (first | (go_at_call 96; refine (wof_c _ _).mono ?_; rintro e wq ⟨rfl, hb⟩; have hz := hb.size; (try simp at hz); have hBq := below_step (w := w) hb (by repeat (first | assumption | exact Below.refl _ _ | (with_reducible refine Below.drew ?_) | (with_reducible refine below_drewN' ?_ _) | (with_reducible refine below_al ?_) | ((with_reducible refine below_set ?_ ?_); rotate_left; focus (first | (simp; done) | (simp; omega))))); have hRq := below_step (w := w1) hb (by repeat (first | assumption | exact Below.refl _ _ | (with_reducible refine Below.drew ?_) | (with_reducible refine below_drewN' ?_ _) | (with_reducible refine below_al ?_) | ((with_reducible refine below_set ?_ ?_); rotate_left; focus (first | (simp; done) | (simp; omega))))); have r0 := below_some hRq _ _ _ G0; have r1 := below_some hRq _ _ _ G1; have s0 := (hRq.frozen (p := ⟨w.heap.size, 0, none⟩) lt_w_w1).trans F0; have s1 := (hRq.frozen (p := ⟨w.heap.size, 1, none⟩) lt_w_w1).trans F1) | (go_at_call 95; refine (rtold_c _ _ (by omega) (by omega) _).mono ?_; rintro e wq ⟨rfl, hb⟩; have hz := hb.size; (try simp at hz); have hBq := below_step (w := w) hb (by repeat (first | assumption | exact Below.refl _ _ | (with_reducible refine Below.drew ?_) | (with_reducible refine below_drewN' ?_ _) | (with_reducible refine below_al ?_) | ((with_reducible refine below_set ?_ ?_); rotate_left; focus (first | (simp; done) | (simp; omega))))); have hRq := below_step (w := w1) hb (by repeat (first | assumption | exact Below.refl _ _ | (with_reducible refine Below.drew ?_) | (with_reducible refine below_drewN' ?_ _) | (with_reducible refine below_al ?_) | ((with_reducible refine below_set ?_ ?_); rotate_left; focus (first | (simp; done) | (simp; omega))))); have r0 := below_some hRq _ _ _ G0; have r1 := below_some hRq _ _ _ G1; have s0 := (hRq.frozen (p := ⟨w.heap.size, 0, none⟩) lt_w_w1).trans F0; have s1 := (hRq.frozen (p := ⟨w.heap.size, 1, none⟩) lt_w_w1).trans F1))
  all_goals go_wp2_with fail
  all_goals refine bodyPost_ret (v := .tuple #[.agg #[.int .i64 (a : Int), .int .i64 (b : Int)], .int .i64 0]) (by simp [results, Tryd.results81, go_sem, *]) rfl ⟨rfl, ?_⟩
  all_goals repeat (first | assumption | exact Below.refl _ _ | (with_reducible refine Below.drew ?_) | (with_reducible refine below_drewN' ?_ _) | (with_reducible refine below_al ?_) | ((with_reducible refine below_set ?_ ?_); rotate_left; focus (first | (simp; done) | (simp; omega))))
end Go.Proofs.YtjcjchapfiokeaaDoor
