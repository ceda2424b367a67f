/- Months of 30 days, the program's: a day's stand-in, and what turns stand-ins. Conditions: the table of months' lengths lies as the program's text lays it. -/
import Derived.Test.YtjcjchapfiokeaaDoorOwn
import Derived.Test.YtjcjchapfiokeaaDoorMonB
import Derived.Test.YtjcjchapfiokeaaDoorThi
import Derived.IntWalk
import Derived.Deep.RegionWith
import Derived.Deep.Cut
namespace Go.Proofs.YtjcjchapfiokeaaDoor
open Go.RowKit
set_option linter.unusedVariables false
set_option linter.unusedSimpArgs false
theorem feb_truetrue (y m d : Int) (h : (m == 2) = true) (w : World) : Calls Tryd.prog 59 #[.agg #[.int .i64 y, .int .i64 m, .int .i64 d, .bool true]] w fun e w' => e = .returned (.bool true) ∧ Below w.heap.size w w' := by
  go_enter Tryd.func59, Tryd.ntmps59
  go_wp2_with fail
  go_ret
  exact ⟨rfl, by repeat (first | assumption | exact Below.refl _ _ | (with_reducible refine Below.drew ?_) | (with_reducible refine below_drewN' ?_ _) | (with_reducible refine below_al ?_) | ((with_reducible refine below_set ?_ ?_); rotate_left; focus (first | (simp; done) | (simp; omega))))⟩
theorem feb_truefalse (y m d : Int) (h : (m == 2) = false) (w : World) : Calls Tryd.prog 59 #[.agg #[.int .i64 y, .int .i64 m, .int .i64 d, .bool true]] w fun e w' => e = .returned (.bool false) ∧ Below w.heap.size w w' := by
  go_enter Tryd.func59, Tryd.ntmps59
  go_wp2_with fail
  go_ret
  exact ⟨rfl, by repeat (first | assumption | exact Below.refl _ _ | (with_reducible refine Below.drew ?_) | (with_reducible refine below_drewN' ?_ _) | (with_reducible refine below_al ?_) | ((with_reducible refine below_set ?_ ?_); rotate_left; focus (first | (simp; done) | (simp; omega))))⟩
theorem feb_falsex (y m d : Int)  (w : World) : Calls Tryd.prog 59 #[.agg #[.int .i64 y, .int .i64 m, .int .i64 d, .bool false]] w fun e w' => e = .returned (.bool false) ∧ Below w.heap.size w w' := by
  go_enter Tryd.func59, Tryd.ntmps59
  go_wp2_with fail
  go_ret
  exact ⟨rfl, by repeat (first | assumption | exact Below.refl _ _ | (with_reducible refine Below.drew ?_) | (with_reducible refine below_drewN' ?_ _) | (with_reducible refine below_al ?_) | ((with_reducible refine below_set ?_ ?_); rotate_left; focus (first | (simp; done) | (simp; omega))))⟩
theorem feb_c (y m d : Int) (l r : Bool) (hr : (l && (m == 2)) = r) (w : World) : Calls Tryd.prog 59 #[.agg #[.int .i64 y, .int .i64 m, .int .i64 d, .bool l]] w fun e w' => e = .returned (.bool r) ∧ Below w.heap.size w w' := by
  subst hr
  cases l
  · exact feb_falsex y m d w
  · cases h : (m == 2)
    · exact feb_truefalse y m d h w
    · exact feb_truetrue y m d h w
set_option maxHeartbeats 2000000 in
theorem tof_c (n : Int) (w : World) (hL : Laid w) : Calls Tryd.prog 80 #[.int .i64 n] w fun e w' => e = .returned (.tuple #[.agg #[.int .i64 (ofY n), .int .i64 (ofM n), .int .i64 (ofD n), .bool (Mon.lastB n)], .int .i64 (ofE n)]) ∧ Below w.heap.size w w' := by
  have hB : Below w.heap.size w w := Below.refl _ _
  go_enter Tryd.func80, Tryd.ntmps80
  go_wp2_with fail
  refine (of_c _ _ (hL.below (by repeat (first | (with_reducible assumption) | (with_reducible exact Below.refl _ _) | (with_reducible refine Below.drew ?_) | (with_reducible refine below_drewN' ?_ _) | (with_reducible refine below_al ?_) | ((with_reducible refine below_set ?_ ?_); rotate_left; focus (first | (simp; done) | (simp; omega))))))).mono ?_; rintro e w1 ⟨rfl, hb1⟩
  have hz1 := hb1.size; (try simp at hz1); obtain ⟨hc1, hf1⟩ := bcell hb1
  have hB_w_1 := below_step (w := w) hb1 (by repeat (first | (with_reducible assumption) | (with_reducible exact Below.refl _ _) | (with_reducible refine Below.drew ?_) | (with_reducible refine below_drewN' ?_ _) | (with_reducible refine below_al ?_) | ((with_reducible refine below_set ?_ ?_); rotate_left; focus (first | (simp; done) | (simp; omega)))))
  have le_w_w1 : w.heap.size ≤ w1.heap.size := by omega
  try have lt_w_w1 : w.heap.size < w1.heap.size := by omega
  try have lp01_w_w1 : w.heap.size < w1.heap.size + 1 := by omega
  try have lp02_w_w1 : w.heap.size < w1.heap.size + 1 + 1 := by omega
  try have lp03_w_w1 : w.heap.size < w1.heap.size + 1 + 1 + 1 := by omega
  try have lp11_w_w1 : w.heap.size + 1 < w1.heap.size + 1 := by omega
  try have lp12_w_w1 : w.heap.size + 1 < w1.heap.size + 1 + 1 := by omega
  try have lp13_w_w1 : w.heap.size + 1 < w1.heap.size + 1 + 1 + 1 := by omega
  try have lp22_w_w1 : w.heap.size + 1 + 1 < w1.heap.size + 1 + 1 := by omega
  try have lp23_w_w1 : w.heap.size + 1 + 1 < w1.heap.size + 1 + 1 + 1 := by omega
  have s1_w1 : w1.heap.size < w1.heap.size + 1 + 1 := by omega
  have s2_w1 : w1.heap.size < w1.heap.size + 1 + 1 + 1 := by omega
  go_upto_region 2 with fail
  generalize hW : (w1.alloc _) = w2
  have l1 : Below w.heap.size w w2 := by rw [← hW]; exact below_al hB_w_1
  have l2 : Below w1.heap.size w1 w2 := by rw [← hW]; exact below_al (Below.refl _ _)
  have G0 : w2.cell? ⟨w.heap.size, 0, none⟩ = some (.int .i64 0) := below_some l2 _ _ _ (below_some hb1 _ _ _ (cell_nu rfl rfl))
  have F0 : w2.frozen? ⟨w.heap.size, 0, none⟩ = false := (l2.frozen (p := ⟨w.heap.size, 0, none⟩) lt_w_w1).trans ((hb1.frozen (p := ⟨w.heap.size, 0, none⟩) (by simp)).trans (blk_free (blk_nu rfl)))
  have G1 : w2.cell? ⟨w.heap.size, 1, none⟩ = some (.int .i64 0) := below_some l2 _ _ _ (below_some hb1 _ _ _ (cell_nu rfl rfl))
  have F1 : w2.frozen? ⟨w.heap.size, 1, none⟩ = false := (l2.frozen (p := ⟨w.heap.size, 1, none⟩) lt_w_w1).trans ((hb1.frozen (p := ⟨w.heap.size, 1, none⟩) (by simp)).trans (blk_free (blk_nu rfl)))
  have G2 : w2.cell? ⟨w.heap.size, 2, none⟩ = some (.int .i64 0) := below_some l2 _ _ _ (below_some hb1 _ _ _ (cell_nu rfl rfl))
  have F2 : w2.frozen? ⟨w.heap.size, 2, none⟩ = false := (l2.frozen (p := ⟨w.heap.size, 2, none⟩) lt_w_w1).trans ((hb1.frozen (p := ⟨w.heap.size, 2, none⟩) (by simp)).trans (blk_free (blk_nu rfl)))
  have G3 : w2.cell? ⟨w.heap.size, 3, none⟩ = some (.bool false) := below_some l2 _ _ _ (below_some hb1 _ _ _ (cell_nu rfl rfl))
  have F3 : w2.frozen? ⟨w.heap.size, 3, none⟩ = false := (l2.frozen (p := ⟨w.heap.size, 3, none⟩) lt_w_w1).trans ((hb1.frozen (p := ⟨w.heap.size, 3, none⟩) (by simp)).trans (blk_free (blk_nu rfl)))
  have H0 : w2.cell? ⟨w1.heap.size, 0, none⟩ = some (.int .i64 (ofY n)) := by rw [← hW]; exact cell_nu rfl rfl
  have H1 : w2.cell? ⟨w1.heap.size, 1, none⟩ = some (.int .i64 (ofM n)) := by rw [← hW]; exact cell_nu rfl rfl
  have H2 : w2.cell? ⟨w1.heap.size, 2, none⟩ = some (.int .i64 (ofD n)) := by rw [← hW]; exact cell_nu rfl rfl
  clear hW hc1 hf1 hb1
  have hR : Below w2.heap.size w2 w2 := Below.refl _ _
  go_wp2_with fail
  go_region_with (go_at_call 93; refine (last_c _ _ (hL.below (by repeat (first | (with_reducible assumption) | (with_reducible exact Below.refl _ _) | (with_reducible refine Below.drew ?_) | (with_reducible refine below_drewN' ?_ _) | (with_reducible refine below_al ?_) | ((with_reducible refine below_set ?_ ?_); rotate_left; focus (first | (simp; done) | (simp; omega))))))).mono ?_; rintro e wq ⟨rfl, hb⟩; have hBq := below_step (w := w) hb (by repeat (first | (with_reducible assumption) | (with_reducible exact Below.refl _ _) | (with_reducible refine Below.drew ?_) | (with_reducible refine below_drewN' ?_ _) | (with_reducible refine below_al ?_) | ((with_reducible refine below_set ?_ ?_); rotate_left; focus (first | (simp; done) | (simp; omega))))); have hRq := below_step (w := w2) hb (by repeat (first | (with_reducible assumption) | (with_reducible exact Below.refl _ _) | (with_reducible refine Below.drew ?_) | (with_reducible refine below_drewN' ?_ _) | (with_reducible refine below_al ?_) | ((with_reducible refine below_set ?_ ?_); rotate_left; focus (first | (simp; done) | (simp; omega))))); have r0 := below_some hRq _ _ _ G0; have s0 := (hRq.frozen (p := ⟨w.heap.size, 0, none⟩) (World.block_lt_of_cell? _ _ G0)).trans F0; have r1 := below_some hRq _ _ _ G1; have s1 := (hRq.frozen (p := ⟨w.heap.size, 1, none⟩) (World.block_lt_of_cell? _ _ G1)).trans F1; have r2 := below_some hRq _ _ _ G2; have s2 := (hRq.frozen (p := ⟨w.heap.size, 2, none⟩) (World.block_lt_of_cell? _ _ G2)).trans F2; have r3 := below_some hRq _ _ _ G3; have s3 := (hRq.frozen (p := ⟨w.heap.size, 3, none⟩) (World.block_lt_of_cell? _ _ G3)).trans F3; have t0 := below_some hRq _ _ _ H0; have t1 := below_some hRq _ _ _ H1; have t2 := below_some hRq _ _ _ H2)
  all_goals go_wp2_with fail
  all_goals refine bodyPost_ret (v := .tuple #[.agg #[.int .i64 (ofY n), .int .i64 (ofM n), .int .i64 (ofD n), .bool (Mon.lastB n)], .int .i64 (ofE n)]) (by simp [results, Tryd.results80, go_sem, r0, r1, r2, r3]) rfl ⟨rfl, ?_⟩
  all_goals repeat (first | assumption | exact Below.refl _ _ | (with_reducible refine Below.drew ?_) | (with_reducible refine below_drewN' ?_ _) | (with_reducible refine below_al ?_) | ((with_reducible refine below_set ?_ ?_); rotate_left; focus (first | (simp; done) | (simp; omega))))
theorem cut_lo0 (k : Nat) (d : Int) (h : d ≤ 30) (w : World) (hd : w.cell? ⟨k, 2, none⟩ = some (.int .i64 d)) (hf : w.frozen? ⟨k, 2, none⟩ = false) : Calls Tryd.prog 60 #[.pointer (some ⟨k, 0, none⟩)] w fun e w' => e = .returned (.tuple #[]) ∧ w' = w.setCell ⟨k, 2, none⟩ (.int .i64 d) := by
  go_enter Tryd.func60, Tryd.ntmps60
  go_wp2_with fail
  refine bodyPost_end (results_none rfl _ _ _) rfl ?_
  exact ⟨rfl, rfl⟩
theorem cut_hi0 (k : Nat) (d : Int) (h : 30 < d) (w : World) (hd : w.cell? ⟨k, 2, none⟩ = some (.int .i64 d)) (hf : w.frozen? ⟨k, 2, none⟩ = false) : Calls Tryd.prog 60 #[.pointer (some ⟨k, 0, none⟩)] w fun e w' => e = .returned (.tuple #[]) ∧ w' = w.setCell ⟨k, 2, none⟩ (.int .i64 30) := by
  go_enter Tryd.func60, Tryd.ntmps60
  go_wp2_with fail
  refine bodyPost_end (results_none rfl _ _ _) rfl ?_
  exact ⟨rfl, rfl⟩
theorem cut0_c (k : Nat) (d : Int) (w : World) (hd : w.cell? ⟨k, 2, none⟩ = some (.int .i64 d)) (hf : w.frozen? ⟨k, 2, none⟩ = false) : Calls Tryd.prog 60 #[.pointer (some ⟨k, 0, none⟩)] w fun e w' => e = .returned (.tuple #[]) ∧ w' = w.setCell ⟨k, 2, none⟩ (.int .i64 (min d 30)) := by
  by_cases h : d ≤ 30
  · rw [Int.min_eq_left h]; exact cut_lo0 k d h w hd hf
  · rw [Int.min_eq_right (by omega)]; exact cut_hi0 k d (by omega) w hd hf
theorem end_yes0 (k : Nat) (d : Int) (w : World) (hl : w.cell? ⟨k, 3, none⟩ = some (.bool true)) (hd : w.cell? ⟨k, 2, none⟩ = some (.int .i64 d)) (hf : w.frozen? ⟨k, 2, none⟩ = false) : Calls Tryd.prog 66 #[.pointer (some ⟨k, 0, none⟩)] w fun e w' => e = .returned (.tuple #[]) ∧ w' = w.setCell ⟨k, 2, none⟩ (.int .i64 30) := by
  go_enter Tryd.func66, Tryd.ntmps66
  go_wp2_with fail
  refine bodyPost_end (results_none rfl _ _ _) rfl ?_
  exact ⟨rfl, rfl⟩
theorem end_no0 (k : Nat) (d : Int) (w : World) (hl : w.cell? ⟨k, 3, none⟩ = some (.bool false)) (hd : w.cell? ⟨k, 2, none⟩ = some (.int .i64 d)) (hf : w.frozen? ⟨k, 2, none⟩ = false) : Calls Tryd.prog 66 #[.pointer (some ⟨k, 0, none⟩)] w fun e w' => e = .returned (.tuple #[]) ∧ w' = w := by
  go_enter Tryd.func66, Tryd.ntmps66
  go_wp2_with fail
  refine bodyPost_end (results_none rfl _ _ _) rfl ?_
  exact ⟨rfl, rfl⟩
theorem cut_lo4 (k : Nat) (d : Int) (h : d ≤ 30) (w : World) (hd : w.cell? ⟨k, 6, none⟩ = some (.int .i64 d)) (hf : w.frozen? ⟨k, 6, none⟩ = false) : Calls Tryd.prog 60 #[.pointer (some ⟨k, 4, none⟩)] w fun e w' => e = .returned (.tuple #[]) ∧ w' = w.setCell ⟨k, 6, none⟩ (.int .i64 d) := by
  go_enter Tryd.func60, Tryd.ntmps60
  go_wp2_with fail
  refine bodyPost_end (results_none rfl _ _ _) rfl ?_
  exact ⟨rfl, rfl⟩
theorem cut_hi4 (k : Nat) (d : Int) (h : 30 < d) (w : World) (hd : w.cell? ⟨k, 6, none⟩ = some (.int .i64 d)) (hf : w.frozen? ⟨k, 6, none⟩ = false) : Calls Tryd.prog 60 #[.pointer (some ⟨k, 4, none⟩)] w fun e w' => e = .returned (.tuple #[]) ∧ w' = w.setCell ⟨k, 6, none⟩ (.int .i64 30) := by
  go_enter Tryd.func60, Tryd.ntmps60
  go_wp2_with fail
  refine bodyPost_end (results_none rfl _ _ _) rfl ?_
  exact ⟨rfl, rfl⟩
theorem cut4_c (k : Nat) (d : Int) (w : World) (hd : w.cell? ⟨k, 6, none⟩ = some (.int .i64 d)) (hf : w.frozen? ⟨k, 6, none⟩ = false) : Calls Tryd.prog 60 #[.pointer (some ⟨k, 4, none⟩)] w fun e w' => e = .returned (.tuple #[]) ∧ w' = w.setCell ⟨k, 6, none⟩ (.int .i64 (min d 30)) := by
  by_cases h : d ≤ 30
  · rw [Int.min_eq_left h]; exact cut_lo4 k d h w hd hf
  · rw [Int.min_eq_right (by omega)]; exact cut_hi4 k d (by omega) w hd hf
theorem end_yes4 (k : Nat) (d : Int) (w : World) (hl : w.cell? ⟨k, 7, none⟩ = some (.bool true)) (hd : w.cell? ⟨k, 6, none⟩ = some (.int .i64 d)) (hf : w.frozen? ⟨k, 6, none⟩ = false) : Calls Tryd.prog 66 #[.pointer (some ⟨k, 4, none⟩)] w fun e w' => e = .returned (.tuple #[]) ∧ w' = w.setCell ⟨k, 6, none⟩ (.int .i64 30) := by
  go_enter Tryd.func66, Tryd.ntmps66
  go_wp2_with fail
  refine bodyPost_end (results_none rfl _ _ _) rfl ?_
  exact ⟨rfl, rfl⟩
theorem end_no4 (k : Nat) (d : Int) (w : World) (hl : w.cell? ⟨k, 7, none⟩ = some (.bool false)) (hd : w.cell? ⟨k, 6, none⟩ = some (.int .i64 d)) (hf : w.frozen? ⟨k, 6, none⟩ = false) : Calls Tryd.prog 66 #[.pointer (some ⟨k, 4, none⟩)] w fun e w' => e = .returned (.tuple #[]) ∧ w' = w := by
  go_enter Tryd.func66, Tryd.ntmps66
  go_wp2_with fail
  refine bodyPost_end (results_none rfl _ _ _) rfl ?_
  exact ⟨rfl, rfl⟩
/-- Two days' stand-ins, as they lie. -/
def T8 (k : Nat) (w : World) (y1 m1 d1 : Int) (l1 : Bool) (y2 m2 d2 : Int) (l2 : Bool) : Prop := w.heap[k]? = some (.cells #[.int .i64 y1, .int .i64 m1, .int .i64 d1, .bool l1, .int .i64 y2, .int .i64 m2, .int .i64 d2, .bool l2] 91 (0, 0))
theorem T8.cells {k : Nat} {w : World} {y1 m1 d1 : Int} {l1 : Bool} {y2 m2 d2 : Int} {l2 : Bool} (h : T8 k w y1 m1 d1 l1 y2 m2 d2 l2) : k < w.heap.size ∧ (∀ i, w.frozen? ⟨k, i, none⟩ = false) ∧ w.cell? ⟨k, 0, none⟩ = some (.int .i64 y1) ∧ w.cell? ⟨k, 1, none⟩ = some (.int .i64 m1) ∧ w.cell? ⟨k, 2, none⟩ = some (.int .i64 d1) ∧ w.cell? ⟨k, 3, none⟩ = some (.bool l1) ∧ w.cell? ⟨k, 4, none⟩ = some (.int .i64 y2) ∧ w.cell? ⟨k, 5, none⟩ = some (.int .i64 m2) ∧ w.cell? ⟨k, 6, none⟩ = some (.int .i64 d2) ∧ w.cell? ⟨k, 7, none⟩ = some (.bool l2) :=
  ⟨blk_lt h, fun i => blk_free h, blk_cell h rfl, blk_cell h rfl, blk_cell h rfl, blk_cell h rfl, blk_cell h rfl, blk_cell h rfl, blk_cell h rfl, blk_cell h rfl⟩
set_option maxHeartbeats 2000000 in
theorem us1_n0 (k : Nat) (y1 m1 d1 : Int) (l1 : Bool) (y2 m2 d2 : Int) (l2 : Bool) (be : Nat) (w : World) (hT : T8 k w y1 m1 d1 l1 y2 m2 d2 l2) (he : w.cell? ⟨be, 0, none⟩ = some (.bool false)) (hd : ¬ 30 ≤ d1) : Calls Tryd.prog 58 #[.pointer (some ⟨k, 0, none⟩), .pointer (some ⟨be, 0, none⟩)] w fun e w' => e = .returned (.tuple #[]) ∧ T8 k w' y1 m1 (min (d1) 30) l1 y2 m2 (d2) l2 ∧ Below k w w' := by
  have HT := Lib.hid hT
  obtain ⟨hk, hfz, c0, c1, c2, c3, c4, c5, c6, c7⟩ := hT.cells
  have hk' := Nat.le_of_lt hk
  clear hT
  go_enter Tryd.func58, Tryd.ntmps58

  go_wp2_with fail
  refine (cut0_c k (d1) _ (by simp [go_sem, *]) (by simp [go_sem, *])).mono ?_
  rintro e w' ⟨rfl, rfl⟩
  go_wp2_with fail
  refine bodyPost_end (results_none rfl _ _ _) rfl ⟨rfl, ?_, ?_⟩
  · have hT := HT.out
    have h := (blk_set (i := 2) (u := .int .i64 (min (d1) 30)) hT)
    unfold T8; simpa using h
  · exact ((Below.refl k w).setCell (Nat.le_refl _) _)
set_option maxHeartbeats 2000000 in
theorem us1_n1 (k : Nat) (y1 m1 d1 : Int) (l1 : Bool) (y2 m2 d2 : Int) (l2 : Bool) (be : Nat) (w : World) (hT : T8 k w y1 m1 d1 l1 y2 m2 d2 l2) (he : w.cell? ⟨be, 0, none⟩ = some (.bool false)) (hd : 30 ≤ d1) : Calls Tryd.prog 58 #[.pointer (some ⟨k, 0, none⟩), .pointer (some ⟨be, 0, none⟩)] w fun e w' => e = .returned (.tuple #[]) ∧ T8 k w' y1 m1 (min (d1) 30) l1 y2 m2 (min (d2) 30) l2 ∧ Below k w w' := by
  have HT := Lib.hid hT
  obtain ⟨hk, hfz, c0, c1, c2, c3, c4, c5, c6, c7⟩ := hT.cells
  have hk' := Nat.le_of_lt hk
  clear hT
  go_enter Tryd.func58, Tryd.ntmps58

  go_wp2_with fail
  refine (cut4_c k (d2) _ (by simp [go_sem, *]) (by simp [go_sem, *])).mono ?_
  rintro e w' ⟨rfl, rfl⟩
  go_wp2_with fail
  refine (cut0_c k (d1) _ (by simp [go_sem, *]) (by simp [go_sem, *])).mono ?_
  rintro e w' ⟨rfl, rfl⟩
  go_wp2_with fail
  refine bodyPost_end (results_none rfl _ _ _) rfl ⟨rfl, ?_, ?_⟩
  · have hT := HT.out
    have h := (blk_set (i := 2) (u := .int .i64 (min (d1) 30)) (blk_set (i := 6) (u := .int .i64 (min (d2) 30)) hT))
    unfold T8; simpa using h
  · exact (((Below.refl k w).setCell (Nat.le_refl _) _).setCell (Nat.le_refl _) _)
set_option maxHeartbeats 2000000 in
theorem us1_m0 (k : Nat) (y1 m1 d1 : Int) (l1 : Bool) (y2 m2 d2 : Int) (l2 : Bool) (be : Nat) (w : World) (hT : T8 k w y1 m1 d1 l1 y2 m2 d2 l2) (he : w.cell? ⟨be, 0, none⟩ = some (.bool true)) (g1 : (l1 && (m1 == 2)) = false) (hd : ¬ 30 ≤ d1) : Calls Tryd.prog 58 #[.pointer (some ⟨k, 0, none⟩), .pointer (some ⟨be, 0, none⟩)] w fun e w' => e = .returned (.tuple #[]) ∧ T8 k w' y1 m1 (min (d1) 30) l1 y2 m2 (d2) l2 ∧ Below k w w' := by
  have HT := Lib.hid hT
  obtain ⟨hk, hfz, c0, c1, c2, c3, c4, c5, c6, c7⟩ := hT.cells
  have hk' := Nat.le_of_lt hk
  clear hT
  go_enter Tryd.func58, Tryd.ntmps58
  go_wp2_with fail
  refine (feb_c _ _ _ _ _ g1 _).mono ?_; rintro e w1 ⟨rfl, hb1⟩
  have hz1 := hb1.size; (try simp at hz1); obtain ⟨hc1, hf1⟩ := bcell hb1
  have hB_w_1 := below_step (w := w) hb1 (by repeat (first | (with_reducible assumption) | (with_reducible exact Below.refl _ _) | (with_reducible refine Below.drew ?_) | (with_reducible refine below_drewN' ?_ _) | (with_reducible refine below_al ?_) | ((with_reducible refine below_set ?_ ?_); rotate_left; focus (first | (simp; done) | (simp; omega)))))
  have le_w_w1 : w.heap.size ≤ w1.heap.size := by omega
  try have lt_w_w1 : w.heap.size < w1.heap.size := by omega
  try have lp01_w_w1 : w.heap.size < w1.heap.size + 1 := by omega
  try have lp02_w_w1 : w.heap.size < w1.heap.size + 1 + 1 := by omega
  try have lp03_w_w1 : w.heap.size < w1.heap.size + 1 + 1 + 1 := by omega
  try have lp11_w_w1 : w.heap.size + 1 < w1.heap.size + 1 := by omega
  try have lp12_w_w1 : w.heap.size + 1 < w1.heap.size + 1 + 1 := by omega
  try have lp13_w_w1 : w.heap.size + 1 < w1.heap.size + 1 + 1 + 1 := by omega
  try have lp22_w_w1 : w.heap.size + 1 + 1 < w1.heap.size + 1 + 1 := by omega
  try have lp23_w_w1 : w.heap.size + 1 + 1 < w1.heap.size + 1 + 1 + 1 := by omega
  have s1_w1 : w1.heap.size < w1.heap.size + 1 + 1 := by omega
  have s2_w1 : w1.heap.size < w1.heap.size + 1 + 1 + 1 := by omega
  have lb_k_w1 : k < w1.heap.size := by omega
  have lc_k_w1 : k ≤ w1.heap.size := by omega
  go_wp2_with fail
  refine (cut0_c k (d1) _ (by simp [go_sem, *]) (by simp [go_sem, *])).mono ?_
  rintro e w' ⟨rfl, rfl⟩
  go_wp2_with fail
  refine bodyPost_end (results_none rfl _ _ _) rfl ⟨rfl, ?_, ?_⟩
  · have hT := HT.out
    have h := (blk_set (i := 2) (u := .int .i64 (min (d1) 30)) (blk_st hb1 hT))
    unfold T8; simpa using h
  · exact (((Below.refl k w).trans (hb1.mono (Nat.le_of_lt (by first | omega | (simp; omega))))).setCell (Nat.le_refl _) _)
set_option maxHeartbeats 2000000 in
theorem us1_m1 (k : Nat) (y1 m1 d1 : Int) (l1 : Bool) (y2 m2 d2 : Int) (l2 : Bool) (be : Nat) (w : World) (hT : T8 k w y1 m1 d1 l1 y2 m2 d2 l2) (he : w.cell? ⟨be, 0, none⟩ = some (.bool true)) (g1 : (l1 && (m1 == 2)) = false) (hd : 30 ≤ d1) : Calls Tryd.prog 58 #[.pointer (some ⟨k, 0, none⟩), .pointer (some ⟨be, 0, none⟩)] w fun e w' => e = .returned (.tuple #[]) ∧ T8 k w' y1 m1 (min (d1) 30) l1 y2 m2 (min (d2) 30) l2 ∧ Below k w w' := by
  have HT := Lib.hid hT
  obtain ⟨hk, hfz, c0, c1, c2, c3, c4, c5, c6, c7⟩ := hT.cells
  have hk' := Nat.le_of_lt hk
  clear hT
  go_enter Tryd.func58, Tryd.ntmps58
  go_wp2_with fail
  refine (feb_c _ _ _ _ _ g1 _).mono ?_; rintro e w1 ⟨rfl, hb1⟩
  have hz1 := hb1.size; (try simp at hz1); obtain ⟨hc1, hf1⟩ := bcell hb1
  have hB_w_1 := below_step (w := w) hb1 (by repeat (first | (with_reducible assumption) | (with_reducible exact Below.refl _ _) | (with_reducible refine Below.drew ?_) | (with_reducible refine below_drewN' ?_ _) | (with_reducible refine below_al ?_) | ((with_reducible refine below_set ?_ ?_); rotate_left; focus (first | (simp; done) | (simp; omega)))))
  have le_w_w1 : w.heap.size ≤ w1.heap.size := by omega
  try have lt_w_w1 : w.heap.size < w1.heap.size := by omega
  try have lp01_w_w1 : w.heap.size < w1.heap.size + 1 := by omega
  try have lp02_w_w1 : w.heap.size < w1.heap.size + 1 + 1 := by omega
  try have lp03_w_w1 : w.heap.size < w1.heap.size + 1 + 1 + 1 := by omega
  try have lp11_w_w1 : w.heap.size + 1 < w1.heap.size + 1 := by omega
  try have lp12_w_w1 : w.heap.size + 1 < w1.heap.size + 1 + 1 := by omega
  try have lp13_w_w1 : w.heap.size + 1 < w1.heap.size + 1 + 1 + 1 := by omega
  try have lp22_w_w1 : w.heap.size + 1 + 1 < w1.heap.size + 1 + 1 := by omega
  try have lp23_w_w1 : w.heap.size + 1 + 1 < w1.heap.size + 1 + 1 + 1 := by omega
  have s1_w1 : w1.heap.size < w1.heap.size + 1 + 1 := by omega
  have s2_w1 : w1.heap.size < w1.heap.size + 1 + 1 + 1 := by omega
  have lb_k_w1 : k < w1.heap.size := by omega
  have lc_k_w1 : k ≤ w1.heap.size := by omega
  go_wp2_with fail
  refine (cut4_c k (d2) _ (by simp [go_sem, *]) (by simp [go_sem, *])).mono ?_
  rintro e w' ⟨rfl, rfl⟩
  go_wp2_with fail
  refine (cut0_c k (d1) _ (by simp [go_sem, *]) (by simp [go_sem, *])).mono ?_
  rintro e w' ⟨rfl, rfl⟩
  go_wp2_with fail
  refine bodyPost_end (results_none rfl _ _ _) rfl ⟨rfl, ?_, ?_⟩
  · have hT := HT.out
    have h := (blk_set (i := 2) (u := .int .i64 (min (d1) 30)) (blk_set (i := 6) (u := .int .i64 (min (d2) 30)) (blk_st hb1 hT)))
    unfold T8; simpa using h
  · exact ((((Below.refl k w).trans (hb1.mono (Nat.le_of_lt (by first | omega | (simp; omega))))).setCell (Nat.le_refl _) _).setCell (Nat.le_refl _) _)
set_option maxHeartbeats 2000000 in
theorem us1_t0 (k : Nat) (y1 m1 d1 : Int) (l1 : Bool) (y2 m2 d2 : Int) (l2 : Bool) (be : Nat) (w : World) (hT : T8 k w y1 m1 d1 l1 y2 m2 d2 l2) (he : w.cell? ⟨be, 0, none⟩ = some (.bool true)) (g1 : (l1 && (m1 == 2)) = true) (g2 : (l2 && (m2 == 2)) = false) : Calls Tryd.prog 58 #[.pointer (some ⟨k, 0, none⟩), .pointer (some ⟨be, 0, none⟩)] w fun e w' => e = .returned (.tuple #[]) ∧ T8 k w' y1 m1 (min (30) 30) l1 y2 m2 (min (d2) 30) l2 ∧ Below k w w' := by
  have HT := Lib.hid hT
  obtain ⟨hk, hfz, c0, c1, c2, c3, c4, c5, c6, c7⟩ := hT.cells
  have hk' := Nat.le_of_lt hk
  clear hT
  go_enter Tryd.func58, Tryd.ntmps58
  go_wp2_with fail
  refine (feb_c _ _ _ _ _ g1 _).mono ?_; rintro e w1 ⟨rfl, hb1⟩
  have hz1 := hb1.size; (try simp at hz1); obtain ⟨hc1, hf1⟩ := bcell hb1
  have hB_w_1 := below_step (w := w) hb1 (by repeat (first | (with_reducible assumption) | (with_reducible exact Below.refl _ _) | (with_reducible refine Below.drew ?_) | (with_reducible refine below_drewN' ?_ _) | (with_reducible refine below_al ?_) | ((with_reducible refine below_set ?_ ?_); rotate_left; focus (first | (simp; done) | (simp; omega)))))
  have le_w_w1 : w.heap.size ≤ w1.heap.size := by omega
  try have lt_w_w1 : w.heap.size < w1.heap.size := by omega
  try have lp01_w_w1 : w.heap.size < w1.heap.size + 1 := by omega
  try have lp02_w_w1 : w.heap.size < w1.heap.size + 1 + 1 := by omega
  try have lp03_w_w1 : w.heap.size < w1.heap.size + 1 + 1 + 1 := by omega
  try have lp11_w_w1 : w.heap.size + 1 < w1.heap.size + 1 := by omega
  try have lp12_w_w1 : w.heap.size + 1 < w1.heap.size + 1 + 1 := by omega
  try have lp13_w_w1 : w.heap.size + 1 < w1.heap.size + 1 + 1 + 1 := by omega
  try have lp22_w_w1 : w.heap.size + 1 + 1 < w1.heap.size + 1 + 1 := by omega
  try have lp23_w_w1 : w.heap.size + 1 + 1 < w1.heap.size + 1 + 1 + 1 := by omega
  have s1_w1 : w1.heap.size < w1.heap.size + 1 + 1 := by omega
  have s2_w1 : w1.heap.size < w1.heap.size + 1 + 1 + 1 := by omega
  have lb_k_w1 : k < w1.heap.size := by omega
  have lc_k_w1 : k ≤ w1.heap.size := by omega
  go_wp2_with fail
  refine (feb_c _ _ _ _ _ g2 _).mono ?_; rintro e w2 ⟨rfl, hb2⟩
  have hz2 := hb2.size; (try simp at hz2); obtain ⟨hc2, hf2⟩ := bcell hb2
  have hB_w_2 := below_step (w := w) hb2 (by repeat (first | (with_reducible assumption) | (with_reducible exact Below.refl _ _) | (with_reducible refine Below.drew ?_) | (with_reducible refine below_drewN' ?_ _) | (with_reducible refine below_al ?_) | ((with_reducible refine below_set ?_ ?_); rotate_left; focus (first | (simp; done) | (simp; omega)))))
  have hB_w1_2 := below_step (w := w1) hb2 (by repeat (first | (with_reducible assumption) | (with_reducible exact Below.refl _ _) | (with_reducible refine Below.drew ?_) | (with_reducible refine below_drewN' ?_ _) | (with_reducible refine below_al ?_) | ((with_reducible refine below_set ?_ ?_); rotate_left; focus (first | (simp; done) | (simp; omega)))))
  have le_w_w2 : w.heap.size ≤ w2.heap.size := by omega
  try have lt_w_w2 : w.heap.size < w2.heap.size := by omega
  try have lp01_w_w2 : w.heap.size < w2.heap.size + 1 := by omega
  try have lp02_w_w2 : w.heap.size < w2.heap.size + 1 + 1 := by omega
  try have lp03_w_w2 : w.heap.size < w2.heap.size + 1 + 1 + 1 := by omega
  try have lp11_w_w2 : w.heap.size + 1 < w2.heap.size + 1 := by omega
  try have lp12_w_w2 : w.heap.size + 1 < w2.heap.size + 1 + 1 := by omega
  try have lp13_w_w2 : w.heap.size + 1 < w2.heap.size + 1 + 1 + 1 := by omega
  try have lp22_w_w2 : w.heap.size + 1 + 1 < w2.heap.size + 1 + 1 := by omega
  try have lp23_w_w2 : w.heap.size + 1 + 1 < w2.heap.size + 1 + 1 + 1 := by omega
  have le_w1_w2 : w1.heap.size ≤ w2.heap.size := by omega
  try have lt_w1_w2 : w1.heap.size < w2.heap.size := by omega
  try have lp01_w1_w2 : w1.heap.size < w2.heap.size + 1 := by omega
  try have lp02_w1_w2 : w1.heap.size < w2.heap.size + 1 + 1 := by omega
  try have lp03_w1_w2 : w1.heap.size < w2.heap.size + 1 + 1 + 1 := by omega
  try have lp11_w1_w2 : w1.heap.size + 1 < w2.heap.size + 1 := by omega
  try have lp12_w1_w2 : w1.heap.size + 1 < w2.heap.size + 1 + 1 := by omega
  try have lp13_w1_w2 : w1.heap.size + 1 < w2.heap.size + 1 + 1 + 1 := by omega
  try have lp22_w1_w2 : w1.heap.size + 1 + 1 < w2.heap.size + 1 + 1 := by omega
  try have lp23_w1_w2 : w1.heap.size + 1 + 1 < w2.heap.size + 1 + 1 + 1 := by omega
  try have le1_w1_w2 : w1.heap.size + 1 ≤ w2.heap.size := by omega
  try have lt1_w1_w2 : w1.heap.size + 1 < w2.heap.size := by omega
  try have le2_w1_w2 : w1.heap.size + 1 + 1 ≤ w2.heap.size := by omega
  try have lt2_w1_w2 : w1.heap.size + 1 + 1 < w2.heap.size := by omega
  have s1_w2 : w2.heap.size < w2.heap.size + 1 + 1 := by omega
  have s2_w2 : w2.heap.size < w2.heap.size + 1 + 1 + 1 := by omega
  have lb_k_w2 : k < w2.heap.size := by omega
  have lc_k_w2 : k ≤ w2.heap.size := by omega
  go_wp2_with fail
  refine (cut4_c k (d2) _ (by simp [go_sem, *]) (by simp [go_sem, *])).mono ?_
  rintro e w' ⟨rfl, rfl⟩
  go_wp2_with fail
  refine (cut0_c k (30) _ (by simp [go_sem, *]) (by simp [go_sem, *])).mono ?_
  rintro e w' ⟨rfl, rfl⟩
  go_wp2_with fail
  refine bodyPost_end (results_none rfl _ _ _) rfl ⟨rfl, ?_, ?_⟩
  · have hT := HT.out
    have h := (blk_set (i := 2) (u := .int .i64 (min (30) 30)) (blk_set (i := 6) (u := .int .i64 (min (d2) 30)) (blk_set (i := 2) (u := .int .i64 (30)) (blk_st hb2 (blk_st hb1 hT)))))
    unfold T8; simpa using h
  · exact ((((((Below.refl k w).trans (hb1.mono (Nat.le_of_lt (by first | omega | (simp; omega))))).trans (hb2.mono (Nat.le_of_lt (by first | omega | (simp; omega))))).setCell (Nat.le_refl _) _).setCell (Nat.le_refl _) _).setCell (Nat.le_refl _) _)
set_option maxHeartbeats 2000000 in
theorem us1_t1 (k : Nat) (y1 m1 d1 : Int) (l1 : Bool) (y2 m2 d2 : Int) (l2 : Bool) (be : Nat) (w : World) (hT : T8 k w y1 m1 d1 l1 y2 m2 d2 l2) (he : w.cell? ⟨be, 0, none⟩ = some (.bool true)) (g1 : (l1 && (m1 == 2)) = true) (g2 : (l2 && (m2 == 2)) = true) : Calls Tryd.prog 58 #[.pointer (some ⟨k, 0, none⟩), .pointer (some ⟨be, 0, none⟩)] w fun e w' => e = .returned (.tuple #[]) ∧ T8 k w' y1 m1 (min (30) 30) l1 y2 m2 (min (30) 30) l2 ∧ Below k w w' := by
  have HT := Lib.hid hT
  obtain ⟨hk, hfz, c0, c1, c2, c3, c4, c5, c6, c7⟩ := hT.cells
  have hk' := Nat.le_of_lt hk
  clear hT
  go_enter Tryd.func58, Tryd.ntmps58
  go_wp2_with fail
  refine (feb_c _ _ _ _ _ g1 _).mono ?_; rintro e w1 ⟨rfl, hb1⟩
  have hz1 := hb1.size; (try simp at hz1); obtain ⟨hc1, hf1⟩ := bcell hb1
  have hB_w_1 := below_step (w := w) hb1 (by repeat (first | (with_reducible assumption) | (with_reducible exact Below.refl _ _) | (with_reducible refine Below.drew ?_) | (with_reducible refine below_drewN' ?_ _) | (with_reducible refine below_al ?_) | ((with_reducible refine below_set ?_ ?_); rotate_left; focus (first | (simp; done) | (simp; omega)))))
  have le_w_w1 : w.heap.size ≤ w1.heap.size := by omega
  try have lt_w_w1 : w.heap.size < w1.heap.size := by omega
  try have lp01_w_w1 : w.heap.size < w1.heap.size + 1 := by omega
  try have lp02_w_w1 : w.heap.size < w1.heap.size + 1 + 1 := by omega
  try have lp03_w_w1 : w.heap.size < w1.heap.size + 1 + 1 + 1 := by omega
  try have lp11_w_w1 : w.heap.size + 1 < w1.heap.size + 1 := by omega
  try have lp12_w_w1 : w.heap.size + 1 < w1.heap.size + 1 + 1 := by omega
  try have lp13_w_w1 : w.heap.size + 1 < w1.heap.size + 1 + 1 + 1 := by omega
  try have lp22_w_w1 : w.heap.size + 1 + 1 < w1.heap.size + 1 + 1 := by omega
  try have lp23_w_w1 : w.heap.size + 1 + 1 < w1.heap.size + 1 + 1 + 1 := by omega
  have s1_w1 : w1.heap.size < w1.heap.size + 1 + 1 := by omega
  have s2_w1 : w1.heap.size < w1.heap.size + 1 + 1 + 1 := by omega
  have lb_k_w1 : k < w1.heap.size := by omega
  have lc_k_w1 : k ≤ w1.heap.size := by omega
  go_wp2_with fail
  refine (feb_c _ _ _ _ _ g2 _).mono ?_; rintro e w2 ⟨rfl, hb2⟩
  have hz2 := hb2.size; (try simp at hz2); obtain ⟨hc2, hf2⟩ := bcell hb2
  have hB_w_2 := below_step (w := w) hb2 (by repeat (first | (with_reducible assumption) | (with_reducible exact Below.refl _ _) | (with_reducible refine Below.drew ?_) | (with_reducible refine below_drewN' ?_ _) | (with_reducible refine below_al ?_) | ((with_reducible refine below_set ?_ ?_); rotate_left; focus (first | (simp; done) | (simp; omega)))))
  have hB_w1_2 := below_step (w := w1) hb2 (by repeat (first | (with_reducible assumption) | (with_reducible exact Below.refl _ _) | (with_reducible refine Below.drew ?_) | (with_reducible refine below_drewN' ?_ _) | (with_reducible refine below_al ?_) | ((with_reducible refine below_set ?_ ?_); rotate_left; focus (first | (simp; done) | (simp; omega)))))
  have le_w_w2 : w.heap.size ≤ w2.heap.size := by omega
  try have lt_w_w2 : w.heap.size < w2.heap.size := by omega
  try have lp01_w_w2 : w.heap.size < w2.heap.size + 1 := by omega
  try have lp02_w_w2 : w.heap.size < w2.heap.size + 1 + 1 := by omega
  try have lp03_w_w2 : w.heap.size < w2.heap.size + 1 + 1 + 1 := by omega
  try have lp11_w_w2 : w.heap.size + 1 < w2.heap.size + 1 := by omega
  try have lp12_w_w2 : w.heap.size + 1 < w2.heap.size + 1 + 1 := by omega
  try have lp13_w_w2 : w.heap.size + 1 < w2.heap.size + 1 + 1 + 1 := by omega
  try have lp22_w_w2 : w.heap.size + 1 + 1 < w2.heap.size + 1 + 1 := by omega
  try have lp23_w_w2 : w.heap.size + 1 + 1 < w2.heap.size + 1 + 1 + 1 := by omega
  have le_w1_w2 : w1.heap.size ≤ w2.heap.size := by omega
  try have lt_w1_w2 : w1.heap.size < w2.heap.size := by omega
  try have lp01_w1_w2 : w1.heap.size < w2.heap.size + 1 := by omega
  try have lp02_w1_w2 : w1.heap.size < w2.heap.size + 1 + 1 := by omega
  try have lp03_w1_w2 : w1.heap.size < w2.heap.size + 1 + 1 + 1 := by omega
  try have lp11_w1_w2 : w1.heap.size + 1 < w2.heap.size + 1 := by omega
  try have lp12_w1_w2 : w1.heap.size + 1 < w2.heap.size + 1 + 1 := by omega
  try have lp13_w1_w2 : w1.heap.size + 1 < w2.heap.size + 1 + 1 + 1 := by omega
  try have lp22_w1_w2 : w1.heap.size + 1 + 1 < w2.heap.size + 1 + 1 := by omega
  try have lp23_w1_w2 : w1.heap.size + 1 + 1 < w2.heap.size + 1 + 1 + 1 := by omega
  try have le1_w1_w2 : w1.heap.size + 1 ≤ w2.heap.size := by omega
  try have lt1_w1_w2 : w1.heap.size + 1 < w2.heap.size := by omega
  try have le2_w1_w2 : w1.heap.size + 1 + 1 ≤ w2.heap.size := by omega
  try have lt2_w1_w2 : w1.heap.size + 1 + 1 < w2.heap.size := by omega
  have s1_w2 : w2.heap.size < w2.heap.size + 1 + 1 := by omega
  have s2_w2 : w2.heap.size < w2.heap.size + 1 + 1 + 1 := by omega
  have lb_k_w2 : k < w2.heap.size := by omega
  have lc_k_w2 : k ≤ w2.heap.size := by omega
  go_wp2_with fail
  refine (cut4_c k (30) _ (by simp [go_sem, *]) (by simp [go_sem, *])).mono ?_
  rintro e w' ⟨rfl, rfl⟩
  go_wp2_with fail
  refine (cut0_c k (30) _ (by simp [go_sem, *]) (by simp [go_sem, *])).mono ?_
  rintro e w' ⟨rfl, rfl⟩
  go_wp2_with fail
  refine bodyPost_end (results_none rfl _ _ _) rfl ⟨rfl, ?_, ?_⟩
  · have hT := HT.out
    have h := (blk_set (i := 2) (u := .int .i64 (min (30) 30)) (blk_set (i := 6) (u := .int .i64 (min (30) 30)) (blk_set (i := 2) (u := .int .i64 (30)) (blk_set (i := 6) (u := .int .i64 (30)) (blk_st hb2 (blk_st hb1 hT))))))
    unfold T8; simpa using h
  · exact (((((((Below.refl k w).trans (hb1.mono (Nat.le_of_lt (by first | omega | (simp; omega))))).trans (hb2.mono (Nat.le_of_lt (by first | omega | (simp; omega))))).setCell (Nat.le_refl _) _).setCell (Nat.le_refl _) _).setCell (Nat.le_refl _) _).setCell (Nat.le_refl _) _)
end Go.Proofs.YtjcjchapfiokeaaDoor
