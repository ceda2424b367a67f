/- The contracts of the ways' names, the program's and the document's. Conditions: the table of the ways' names lies as the program's text lays it. -/
import Derived.Test.YtlilffoflkkbdaaDoorRolD
import Derived.Test.YtlilffoflkkbdaaDoorROpP
namespace Go.Proofs.YtlilffoflkkbdaaDoor
open Go.RowKit
set_option linter.unusedVariables false
def nameV (k : Int) : ByteArray := if k = 0 then ⟨#[110, 111, 110, 101]⟩ else if k = 1 then ⟨#[102, 111, 108, 108, 111, 119, 105, 110, 103]⟩ else if k = 2 then ⟨#[109, 111, 100, 102, 111, 108, 108, 111, 119, 105, 110, 103]⟩ else if k = 3 then ⟨#[112, 114, 101, 99, 101, 100, 105, 110, 103]⟩ else if k = 4 then ⟨#[109, 111, 100, 112, 114, 101, 99, 101, 100, 105, 110, 103]⟩ else ⟨#[]⟩
theorem nameP_0 (w : World) (hN : Named w) : Calls Tryd.prog 28 #[.int .i64 0] w fun e w' => e = .returned (.string ⟨#[110, 111, 110, 101]⟩) ∧ w = w' := by
  have hc := hN.cell 0 (by decide)
  have hc : w.cell? ⟨0, 0, none⟩ = some (.string ⟨#[110, 111, 110, 101]⟩) := hc
  go_enter Tryd.func28, Tryd.ntmps28
  go_wp2_with fail
  go_ret
  exact ⟨rfl, rfl⟩
theorem nameR_0 (w : World) : Calls Tryd.prog 29 #[.int .i64 0] w fun e w' => e = .returned (.string ⟨#[110, 111, 110, 101]⟩) ∧ Below w.heap.size w w' := by
  go_enter Tryd.func29, Tryd.ntmps29
  go_wp2_with fail
  go_ret
  exact ⟨rfl, by repeat (first | assumption | exact Below.refl _ _ | (with_reducible refine Below.drew ?_) | (with_reducible refine below_drewN' ?_ _) | (with_reducible refine below_al ?_) | ((with_reducible refine below_set ?_ ?_); rotate_left; focus (first | (simp; done) | (simp; omega))))⟩
theorem nameP_1 (w : World) (hN : Named w) : Calls Tryd.prog 28 #[.int .i64 1] w fun e w' => e = .returned (.string ⟨#[102, 111, 108, 108, 111, 119, 105, 110, 103]⟩) ∧ w = w' := by
  have hc := hN.cell 1 (by decide)
  have hc : w.cell? ⟨0, 1, none⟩ = some (.string ⟨#[102, 111, 108, 108, 111, 119, 105, 110, 103]⟩) := hc
  go_enter Tryd.func28, Tryd.ntmps28
  go_wp2_with fail
  go_ret
  exact ⟨rfl, rfl⟩
theorem nameR_1 (w : World) : Calls Tryd.prog 29 #[.int .i64 1] w fun e w' => e = .returned (.string ⟨#[102, 111, 108, 108, 111, 119, 105, 110, 103]⟩) ∧ Below w.heap.size w w' := by
  go_enter Tryd.func29, Tryd.ntmps29
  go_wp2_with fail
  go_ret
  exact ⟨rfl, by repeat (first | assumption | exact Below.refl _ _ | (with_reducible refine Below.drew ?_) | (with_reducible refine below_drewN' ?_ _) | (with_reducible refine below_al ?_) | ((with_reducible refine below_set ?_ ?_); rotate_left; focus (first | (simp; done) | (simp; omega))))⟩
theorem nameP_2 (w : World) (hN : Named w) : Calls Tryd.prog 28 #[.int .i64 2] w fun e w' => e = .returned (.string ⟨#[109, 111, 100, 102, 111, 108, 108, 111, 119, 105, 110, 103]⟩) ∧ w = w' := by
  have hc := hN.cell 2 (by decide)
  have hc : w.cell? ⟨0, 2, none⟩ = some (.string ⟨#[109, 111, 100, 102, 111, 108, 108, 111, 119, 105, 110, 103]⟩) := hc
  go_enter Tryd.func28, Tryd.ntmps28
  go_wp2_with fail
  go_ret
  exact ⟨rfl, rfl⟩
theorem nameR_2 (w : World) : Calls Tryd.prog 29 #[.int .i64 2] w fun e w' => e = .returned (.string ⟨#[109, 111, 100, 102, 111, 108, 108, 111, 119, 105, 110, 103]⟩) ∧ Below w.heap.size w w' := by
  go_enter Tryd.func29, Tryd.ntmps29
  go_wp2_with fail
  go_ret
  exact ⟨rfl, by repeat (first | assumption | exact Below.refl _ _ | (with_reducible refine Below.drew ?_) | (with_reducible refine below_drewN' ?_ _) | (with_reducible refine below_al ?_) | ((with_reducible refine below_set ?_ ?_); rotate_left; focus (first | (simp; done) | (simp; omega))))⟩
theorem nameP_3 (w : World) (hN : Named w) : Calls Tryd.prog 28 #[.int .i64 3] w fun e w' => e = .returned (.string ⟨#[112, 114, 101, 99, 101, 100, 105, 110, 103]⟩) ∧ w = w' := by
  have hc := hN.cell 3 (by decide)
  have hc : w.cell? ⟨0, 3, none⟩ = some (.string ⟨#[112, 114, 101, 99, 101, 100, 105, 110, 103]⟩) := hc
  go_enter Tryd.func28, Tryd.ntmps28
  go_wp2_with fail
  go_ret
  exact ⟨rfl, rfl⟩
theorem nameR_3 (w : World) : Calls Tryd.prog 29 #[.int .i64 3] w fun e w' => e = .returned (.string ⟨#[112, 114, 101, 99, 101, 100, 105, 110, 103]⟩) ∧ Below w.heap.size w w' := by
  go_enter Tryd.func29, Tryd.ntmps29
  go_wp2_with fail
  go_ret
  exact ⟨rfl, by repeat (first | assumption | exact Below.refl _ _ | (with_reducible refine Below.drew ?_) | (with_reducible refine below_drewN' ?_ _) | (with_reducible refine below_al ?_) | ((with_reducible refine below_set ?_ ?_); rotate_left; focus (first | (simp; done) | (simp; omega))))⟩
theorem nameP_4 (w : World) (hN : Named w) : Calls Tryd.prog 28 #[.int .i64 4] w fun e w' => e = .returned (.string ⟨#[109, 111, 100, 112, 114, 101, 99, 101, 100, 105, 110, 103]⟩) ∧ w = w' := by
  have hc := hN.cell 4 (by decide)
  have hc : w.cell? ⟨0, 4, none⟩ = some (.string ⟨#[109, 111, 100, 112, 114, 101, 99, 101, 100, 105, 110, 103]⟩) := hc
  go_enter Tryd.func28, Tryd.ntmps28
  go_wp2_with fail
  go_ret
  exact ⟨rfl, rfl⟩
theorem nameR_4 (w : World) : Calls Tryd.prog 29 #[.int .i64 4] w fun e w' => e = .returned (.string ⟨#[109, 111, 100, 112, 114, 101, 99, 101, 100, 105, 110, 103]⟩) ∧ Below w.heap.size w w' := by
  go_enter Tryd.func29, Tryd.ntmps29
  go_wp2_with fail
  go_ret
  exact ⟨rfl, by repeat (first | assumption | exact Below.refl _ _ | (with_reducible refine Below.drew ?_) | (with_reducible refine below_drewN' ?_ _) | (with_reducible refine below_al ?_) | ((with_reducible refine below_set ?_ ?_); rotate_left; focus (first | (simp; done) | (simp; omega))))⟩
theorem nameP_lo (k : Int) (h : Hid (k < 0)) (w : World) : Calls Tryd.prog 28 #[.int .i64 k] w fun e w' => e = .returned (.string ⟨#[]⟩) ∧ w = w' := by
  have h1 : decide (k < 0) = true := decide_eq_true h.out
  go_enter Tryd.func28, Tryd.ntmps28
  go_wp2_with fail
  go_ret
  exact ⟨rfl, rfl⟩
theorem nameP_hi (k : Int) (h0 : Hid (0 ≤ k)) (h : Hid (5 ≤ k)) (w : World) : Calls Tryd.prog 28 #[.int .i64 k] w fun e w' => e = .returned (.string ⟨#[]⟩) ∧ w = w' := by
  have h1 : decide (k < 0) = false := decide_eq_false (Int.not_lt.2 h0.out)
  have h2 : decide (5 ≤ k) = true := decide_eq_true h.out
  go_enter Tryd.func28, Tryd.ntmps28
  go_wp2_with fail
  go_ret
  exact ⟨rfl, rfl⟩
theorem nameR_lo (k : Int) (h : Hid (k < 0)) (w : World) : Calls Tryd.prog 29 #[.int .i64 k] w fun e w' => e = .returned (.string ⟨#[]⟩) ∧ Below w.heap.size w w' := by
  have h1 : decide (0 ≤ k) = false := decide_eq_false (Int.not_le.2 h.out)
  go_enter Tryd.func29, Tryd.ntmps29
  go_wp2_with fail
  go_ret
  exact ⟨rfl, by repeat (first | assumption | exact Below.refl _ _ | (with_reducible refine Below.drew ?_) | (with_reducible refine below_drewN' ?_ _) | (with_reducible refine below_al ?_) | ((with_reducible refine below_set ?_ ?_); rotate_left; focus (first | (simp; done) | (simp; omega))))⟩
theorem nameR_hi (k : Int) (h0 : Hid (0 ≤ k)) (h : Hid (5 ≤ k)) (w : World) : Calls Tryd.prog 29 #[.int .i64 k] w fun e w' => e = .returned (.string ⟨#[]⟩) ∧ Below w.heap.size w w' := by
  have h1 : decide (0 ≤ k) = true := decide_eq_true h0.out
  have h2 : decide (k < 5) = false := decide_eq_false (Int.not_lt.2 h.out)
  go_enter Tryd.func29, Tryd.ntmps29
  go_wp2_with fail
  go_ret
  exact ⟨rfl, by repeat (first | assumption | exact Below.refl _ _ | (with_reducible refine Below.drew ?_) | (with_reducible refine below_drewN' ?_ _) | (with_reducible refine below_al ?_) | ((with_reducible refine below_set ?_ ?_); rotate_left; focus (first | (simp; done) | (simp; omega))))⟩
theorem nameP_c (k : Int) (w : World) (hN : Named w) : Calls Tryd.prog 28 #[.int .i64 k] w fun e w' => e = .returned (.string (nameV k)) ∧ w = w' := by
  by_cases hl : k < 0
  · have e : nameV k = ⟨#[]⟩ := by unfold nameV; rw [if_neg (by omega), if_neg (by omega), if_neg (by omega), if_neg (by omega), if_neg (by omega)]
    rw [e]; exact nameP_lo k hl w
  by_cases hh : 5 ≤ k
  · have e : nameV k = ⟨#[]⟩ := by unfold nameV; rw [if_neg (by omega), if_neg (by omega), if_neg (by omega), if_neg (by omega), if_neg (by omega)]
    rw [e]; exact nameP_hi k (show 0 ≤ k by omega) hh w
  have hk : k = 0 ∨ k = 1 ∨ k = 2 ∨ k = 3 ∨ k = 4 := by omega
  rcases hk with rfl | rfl | rfl | rfl | rfl
  · exact nameP_0 w hN
  · exact nameP_1 w hN
  · exact nameP_2 w hN
  · exact nameP_3 w hN
  · exact nameP_4 w hN
theorem nameR_c (k : Int) (w : World) : Calls Tryd.prog 29 #[.int .i64 k] w fun e w' => e = .returned (.string (nameV k)) ∧ Below w.heap.size w w' := by
  by_cases hl : k < 0
  · have e : nameV k = ⟨#[]⟩ := by unfold nameV; rw [if_neg (by omega), if_neg (by omega), if_neg (by omega), if_neg (by omega), if_neg (by omega)]
    rw [e]; exact nameR_lo k hl w
  by_cases hh : 5 ≤ k
  · have e : nameV k = ⟨#[]⟩ := by unfold nameV; rw [if_neg (by omega), if_neg (by omega), if_neg (by omega), if_neg (by omega), if_neg (by omega)]
    rw [e]; exact nameR_hi k (show 0 ≤ k by omega) hh w
  have hk : k = 0 ∨ k = 1 ∨ k = 2 ∨ k = 3 ∨ k = 4 := by omega
  rcases hk with rfl | rfl | rfl | rfl | rfl
  · exact nameR_0 w
  · exact nameR_1 w
  · exact nameR_2 w
  · exact nameR_3 w
  · exact nameR_4 w
end Go.Proofs.YtlilffoflkkbdaaDoor
