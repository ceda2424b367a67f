/- The contracts of the layer of months, first part: a month's end, and a day so many months on, of days. Conditions: the table of months' lengths lies as the program's text lays it. -/
import Derived.Test.YtmaocplnikijnaaDoorCivF
import Derived.Test.YtmaocplnikijnaaDoorMon
import Derived.Deep.RegionHeld3
import Derived.Deep.RegionWith
namespace Go.Proofs.YtmaocplnikijnaaDoor
open Go.RowKit
set_option linter.unusedVariables false

theorem mend_c (y m d : Int) (w : World) (hL : Laid w) : Calls Tryd.prog 40 #[.agg #[.int .i64 y, .int .i64 m, .int .i64 d]] w fun e w' => e = .returned (.agg #[.int .i64 y, .int .i64 m, .int .i64 (Cal.len y m)]) ∧ Below w.heap.size w w' := by
  go_enter Tryd.func40, Tryd.ntmps40
  go_wp2_with fail
  refine (length_c _ _ _ (hL.below (by repeat (first | assumption | exact Below.refl _ _ | (with_reducible refine Below.drew ?_) | (with_reducible refine below_drewN' ?_ _) | (with_reducible refine below_al ?_) | ((with_reducible refine below_set ?_ ?_); rotate_left; focus (first | (simp; done) | (simp; omega))))))).mono ?_; rintro e w' ⟨rfl, rfl⟩
  go_wp2_with fail
  refine bodyPost_ret (v := .agg #[.int .i64 y, .int .i64 m, .int .i64 (Cal.len y m)]) (by simp [results, Tryd.results40, go_sem]) rfl ⟨rfl, ?_⟩
  repeat (first | assumption | exact Below.refl _ _ | (with_reducible refine Below.drew ?_) | (with_reducible refine below_drewN' ?_ _) | (with_reducible refine below_al ?_) | ((with_reducible refine below_set ?_ ?_); rotate_left; focus (first | (simp; done) | (simp; omega))))

theorem mon_no1 (y m d k : Int) (w : World) (h : k < -119988 ∨ 119988 < k) : Calls Tryd.prog 45 #[.agg #[.int .i64 y, .int .i64 m, .int .i64 d], .int .i64 k] w fun e w' => e = .returned (.tuple #[.agg #[.int .i64 0, .int .i64 0, .int .i64 0], .int .i64 3]) ∧ Below w.heap.size w w' := by
  rcases h with h | h
  · go_enter Tryd.func45, Tryd.ntmps45
    go_wp2
    refine bodyPost_ret (v := .tuple #[.agg #[.int .i64 0, .int .i64 0, .int .i64 0], .int .i64 3]) (by simp [results, Tryd.results45, go_sem]) rfl ⟨rfl, ?_⟩
    repeat (first | assumption | exact Below.refl _ _ | (with_reducible refine Below.drew ?_) | (with_reducible refine below_drewN' ?_ _) | (with_reducible refine below_al ?_) | ((with_reducible refine below_set ?_ ?_); rotate_left; focus (first | (simp; done) | (simp; omega))))
  · have h' : ¬ k < -119988 := by omega
    go_enter Tryd.func45, Tryd.ntmps45
    go_wp2
    refine bodyPost_ret (v := .tuple #[.agg #[.int .i64 0, .int .i64 0, .int .i64 0], .int .i64 3]) (by simp [results, Tryd.results45, go_sem]) rfl ⟨rfl, ?_⟩
    repeat (first | assumption | exact Below.refl _ _ | (with_reducible refine Below.drew ?_) | (with_reducible refine below_drewN' ?_ _) | (with_reducible refine below_al ?_) | ((with_reducible refine below_set ?_ ?_); rotate_left; focus (first | (simp; done) | (simp; omega))))
theorem mon_no2 (y m d k : Int) (w : World) (k1 : -119988 ≤ k) (k2 : k ≤ 119988) (y1 : 1 ≤ y) (y2 : y ≤ 9999) (m1 : 1 ≤ m) (m2 : m ≤ 12) (h : 12 * y + m - 1 + k < 12 ∨ 120000 ≤ 12 * y + m - 1 + k) : Calls Tryd.prog 45 #[.agg #[.int .i64 y, .int .i64 m, .int .i64 d], .int .i64 k] w fun e w' => e = .returned (.tuple #[.agg #[.int .i64 0, .int .i64 0, .int .i64 0], .int .i64 3]) ∧ Below w.heap.size w w' := by
  rcases h with h | h
  · go_enter Tryd.func45, Tryd.ntmps45
    go_wp2
    refine bodyPost_ret (v := .tuple #[.agg #[.int .i64 0, .int .i64 0, .int .i64 0], .int .i64 3]) (by simp [results, Tryd.results45, go_sem]) rfl ⟨rfl, ?_⟩
    repeat (first | assumption | exact Below.refl _ _ | (with_reducible refine Below.drew ?_) | (with_reducible refine below_drewN' ?_ _) | (with_reducible refine below_al ?_) | ((with_reducible refine below_set ?_ ?_); rotate_left; focus (first | (simp; done) | (simp; omega))))
  · have h' : ¬ 12 * y + m - 1 + k < 12 := by omega
    go_enter Tryd.func45, Tryd.ntmps45
    go_wp2
    refine bodyPost_ret (v := .tuple #[.agg #[.int .i64 0, .int .i64 0, .int .i64 0], .int .i64 3]) (by simp [results, Tryd.results45, go_sem]) rfl ⟨rfl, ?_⟩
    repeat (first | assumption | exact Below.refl _ _ | (with_reducible refine Below.drew ?_) | (with_reducible refine below_drewN' ?_ _) | (with_reducible refine below_al ?_) | ((with_reducible refine below_set ?_ ?_); rotate_left; focus (first | (simp; done) | (simp; omega))))
set_option maxHeartbeats 2000000 in
theorem mon_yes (y m d k M : Int) (w : World) (hL : Laid w) (hM : 12 * y + m - 1 + k = M) (k1 : -119988 ≤ k) (k2 : k ≤ 119988) (y1 : 1 ≤ y) (y2 : y ≤ 9999) (m1 : 1 ≤ m) (m2 : m ≤ 12) (M1 : 12 ≤ M) (M2 : M ≤ 119999) : Calls Tryd.prog 45 #[.agg #[.int .i64 y, .int .i64 m, .int .i64 d], .int .i64 k] w fun e w' => e = .returned (.tuple #[.agg #[.int .i64 (M / 12), .int .i64 (M % 12 + 1), .int .i64 (min d (Cal.len (M / 12) (M % 12 + 1)))], .int .i64 0]) ∧ Below w.heap.size w w' := by
  have hfld : ∀ (x0 x1 x2 : Value) (w : World), (Instr.field 29 (.agg #[x0, x1, x2]) 2).run Tryd.prog w = .ok x2 w := fun _ _ _ _ => by kernel_rfl
  by_cases hd : d ≤ Cal.len (M / 12) (M % 12 + 1)
  · have e : min d (Cal.len (M / 12) (M % 12 + 1)) = d := Int.min_eq_left hd
    rw [e]; clear e
    go_enter Tryd.func45, Tryd.ntmps45
    go_wp2_with fail
    go_region_with (go_at_call 40; refine (mend_c _ _ _ _ (hL.below (by repeat (first | assumption | exact Below.refl _ _ | (with_reducible refine Below.drew ?_) | (with_reducible refine below_drewN' ?_ _) | (with_reducible refine below_al ?_) | ((with_reducible refine below_set ?_ ?_); rotate_left; focus (first | (simp; done) | (simp; omega))))))).mono ?_; rintro e w1 ⟨rfl, hb⟩; have hz := hb.size; simp at hz; obtain ⟨hc, hf⟩ := bcell hb)
    all_goals (have hB1 := below_step (w := w) hb (by repeat (first | assumption | exact Below.refl _ _ | (with_reducible refine Below.drew ?_) | (with_reducible refine below_drewN' ?_ _) | (with_reducible refine below_al ?_) | ((with_reducible refine below_set ?_ ?_); rotate_left; focus (first | (simp; done) | (simp; omega))))))
    all_goals go_wp2_with fail
    all_goals refine bodyPost_ret (v := .tuple #[.agg #[.int .i64 (M / 12), .int .i64 (M % 12 + 1), .int .i64 d], .int .i64 0]) (by simp [results, Tryd.results45, go_sem, hc]) rfl ⟨rfl, ?_⟩
    all_goals repeat (first | assumption | exact Below.refl _ _ | (with_reducible refine Below.drew ?_) | (with_reducible refine below_drewN' ?_ _) | (with_reducible refine below_al ?_) | ((with_reducible refine below_set ?_ ?_); rotate_left; focus (first | (simp; done) | (simp; omega))))
  · have hd' : Cal.len (M / 12) (M % 12 + 1) < d := by omega
    have e : min d (Cal.len (M / 12) (M % 12 + 1)) = Cal.len (M / 12) (M % 12 + 1) := Int.min_eq_right (by omega)
    rw [e]; clear e hd
    go_enter Tryd.func45, Tryd.ntmps45
    go_wp2_with fail
    go_region_with (go_at_call 40; refine (mend_c _ _ _ _ (hL.below (by repeat (first | assumption | exact Below.refl _ _ | (with_reducible refine Below.drew ?_) | (with_reducible refine below_drewN' ?_ _) | (with_reducible refine below_al ?_) | ((with_reducible refine below_set ?_ ?_); rotate_left; focus (first | (simp; done) | (simp; omega))))))).mono ?_; rintro e w1 ⟨rfl, hb⟩; have hz := hb.size; simp at hz; obtain ⟨hc, hf⟩ := bcell hb)
    all_goals (have hB1 := below_step (w := w) hb (by repeat (first | assumption | exact Below.refl _ _ | (with_reducible refine Below.drew ?_) | (with_reducible refine below_drewN' ?_ _) | (with_reducible refine below_al ?_) | ((with_reducible refine below_set ?_ ?_); rotate_left; focus (first | (simp; done) | (simp; omega))))))
    all_goals go_wp2_with fail
    all_goals refine bodyPost_ret (v := .tuple #[.agg #[.int .i64 (M / 12), .int .i64 (M % 12 + 1), .int .i64 (Cal.len (M / 12) (M % 12 + 1))], .int .i64 0]) (by simp [results, Tryd.results45, go_sem, hc]) rfl ⟨rfl, ?_⟩
    all_goals repeat (first | assumption | exact Below.refl _ _ | (with_reducible refine Below.drew ?_) | (with_reducible refine below_drewN' ?_ _) | (with_reducible refine below_al ?_) | ((with_reducible refine below_set ?_ ?_); rotate_left; focus (first | (simp; done) | (simp; omega))))
end Go.Proofs.YtmaocplnikijnaaDoor
