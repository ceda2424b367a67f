/- The walk of RuleUnused: the law returns true for every input. Conditions: the table of months' lengths lies as the program's text lays it. -/
import Derived.Test.YtjcjchapfiokeaaDoorRulShown
import Derived.Test.YtjcjchapfiokeaaDoorRulL
import Derived.Deep.RegionHeld3
namespace Go.Proofs.YtjcjchapfiokeaaDoor
open Go.RowKit
set_option linter.unusedVariables false
set_option maxHeartbeats 8000000 in
set_option maxRecDepth 100000 in
theorem unused_no0 (kd mo da kk off sh fr to mo' da' kk' off' y n : Int) (hm : Rul.may 0 mo da kk off sh fr to = false) (hs : Rul.may 0 mo da kk' off' sh fr to = false) (w : World) (hL : Laid w) : Calls Tryd.prog 7 #[.agg #[.int .i64 0, .int .i64 mo, .int .i64 da, .int .i64 kk, .int .i64 off, .int .i64 sh, .int .i64 fr, .int .i64 to, .int .i64 mo', .int .i64 da', .int .i64 kk', .int .i64 off', .int .i64 y, .int .i64 n]] w fun e w' => e = .returned (.bool true) ∧ Below w.heap.size w w' := by
  have hB : Below w.heap.size w w := Below.refl _ _
  go_enter Tryd.func7, Tryd.ntmps7
  go_wp2_with fail
  refine (shown12_c _ (hL.below (by repeat (first | assumption | exact Below.refl _ _ | (with_reducible refine Below.drew ?_) | (with_reducible refine below_drewN' ?_ _) | (with_reducible refine below_al ?_) | ((with_reducible refine below_set ?_ ?_); rotate_left; focus (first | (simp; done) | (simp; omega))))))).mono ?_; rintro e w1 ⟨rfl, hb1⟩
  have hz1 := hb1.size; (try simp at hz1); obtain ⟨hc1, hf1⟩ := bcell hb1; have hB1 := below_step (w := w) hb1 (by repeat (first | assumption | exact Below.refl _ _ | (with_reducible refine Below.drew ?_) | (with_reducible refine below_drewN' ?_ _) | (with_reducible refine below_al ?_) | ((with_reducible refine below_set ?_ ?_); rotate_left; focus (first | (simp; done) | (simp; omega)))))
  have le_w_w1 : w.heap.size ≤ w1.heap.size := by omega
  try have lt_w_w1 : w.heap.size < w1.heap.size := by omega
  have le1_w_w1 : w.heap.size + 1 ≤ w1.heap.size := by omega
  try have lt1_w_w1 : w.heap.size + 1 < w1.heap.size := by omega
  go_wp2_with fail
  clear hb1
  have t0 : ∀ w' : World, w' = (w1.alloc (Obj.cells #[Value.int IntKind.i64 0, Value.int IntKind.i64 mo, Value.int IntKind.i64 da, Value.int IntKind.i64 kk', Value.int IntKind.i64 off', Value.int IntKind.i64 sh, Value.int IntKind.i64 fr, Value.int IntKind.i64 to] 23)).drew → (Below w.heap.size w w' ∧ w.heap.size + 1 < w'.heap.size ∧ w1.heap.size < w'.heap.size ∧ w'.cell? ⟨w.heap.size + 1, 0, none⟩ = some (.int .i64 0) ∧ w'.cell? ⟨w.heap.size + 1, 1, none⟩ = some (.int .i64 mo) ∧ w'.cell? ⟨w.heap.size + 1, 2, none⟩ = some (.int .i64 da) ∧ w'.cell? ⟨w.heap.size + 1, 3, none⟩ = some (.int .i64 kk) ∧ w'.cell? ⟨w.heap.size + 1, 4, none⟩ = some (.int .i64 off) ∧ w'.cell? ⟨w.heap.size + 1, 5, none⟩ = some (.int .i64 sh) ∧ w'.cell? ⟨w.heap.size + 1, 6, none⟩ = some (.int .i64 fr) ∧ w'.cell? ⟨w.heap.size + 1, 7, none⟩ = some (.int .i64 to) ∧ w'.cell? ⟨w1.heap.size, 0, none⟩ = some (.int .i64 0) ∧ w'.cell? ⟨w1.heap.size, 1, none⟩ = some (.int .i64 mo) ∧ w'.cell? ⟨w1.heap.size, 2, none⟩ = some (.int .i64 da) ∧ w'.cell? ⟨w1.heap.size, 3, none⟩ = some (.int .i64 kk') ∧ w'.cell? ⟨w1.heap.size, 4, none⟩ = some (.int .i64 off') ∧ w'.cell? ⟨w1.heap.size, 5, none⟩ = some (.int .i64 sh) ∧ w'.cell? ⟨w1.heap.size, 6, none⟩ = some (.int .i64 fr) ∧ w'.cell? ⟨w1.heap.size, 7, none⟩ = some (.int .i64 to)) := by
    intro w' hw'; subst hw'
    refine ⟨?_, ?_, ?_, ?_, ?_, ?_, ?_, ?_, ?_, ?_, ?_, ?_, ?_, ?_, ?_, ?_, ?_, ?_, ?_⟩
    · repeat (first | assumption | exact Below.refl _ _ | (with_reducible refine Below.drew ?_) | (with_reducible refine below_drewN' ?_ _) | (with_reducible refine below_al ?_) | ((with_reducible refine below_set ?_ ?_); rotate_left; focus (first | (simp; done) | (simp; omega))))
    · (simp [go_sem]; try omega)
    · (simp [go_sem]; try omega)
    all_goals (simp [*, go_sem]; done)
  go_region_held3 (fun w' => Below w.heap.size w w' ∧ w.heap.size + 1 < w'.heap.size ∧ w1.heap.size < w'.heap.size ∧ w'.cell? ⟨w.heap.size + 1, 0, none⟩ = some (.int .i64 0) ∧ w'.cell? ⟨w.heap.size + 1, 1, none⟩ = some (.int .i64 mo) ∧ w'.cell? ⟨w.heap.size + 1, 2, none⟩ = some (.int .i64 da) ∧ w'.cell? ⟨w.heap.size + 1, 3, none⟩ = some (.int .i64 kk) ∧ w'.cell? ⟨w.heap.size + 1, 4, none⟩ = some (.int .i64 off) ∧ w'.cell? ⟨w.heap.size + 1, 5, none⟩ = some (.int .i64 sh) ∧ w'.cell? ⟨w.heap.size + 1, 6, none⟩ = some (.int .i64 fr) ∧ w'.cell? ⟨w.heap.size + 1, 7, none⟩ = some (.int .i64 to) ∧ w'.cell? ⟨w1.heap.size, 0, none⟩ = some (.int .i64 0) ∧ w'.cell? ⟨w1.heap.size, 1, none⟩ = some (.int .i64 mo) ∧ w'.cell? ⟨w1.heap.size, 2, none⟩ = some (.int .i64 da) ∧ w'.cell? ⟨w1.heap.size, 3, none⟩ = some (.int .i64 kk') ∧ w'.cell? ⟨w1.heap.size, 4, none⟩ = some (.int .i64 off') ∧ w'.cell? ⟨w1.heap.size, 5, none⟩ = some (.int .i64 sh) ∧ w'.cell? ⟨w1.heap.size, 6, none⟩ = some (.int .i64 fr) ∧ w'.cell? ⟨w1.heap.size, 7, none⟩ = some (.int .i64 to))
    (first | exact t0 _ rfl | (go_split_ands; obtain ⟨hc', _⟩ := bcell hb; have hz' := hb.size; refine ⟨below_step hb (by assumption), by omega, by omega, ?_, ?_, ?_, ?_, ?_, ?_, ?_, ?_, ?_, ?_, ?_, ?_, ?_, ?_, ?_, ?_⟩; all_goals exact (hc' _ _ (by omega)).trans (by assumption)) | go_keep)
    (first | (go_at_call 17; refine (ruleMay_c _ _ _ _ _ _ _ _ _ (hL.below (by go_split_ands; assumption))).mono ?_; rintro e wn ⟨rfl, hb⟩))
  clear t0
  rename World => w2
  rename (Below w.heap.size w w2 ∧ _) => hS
  obtain ⟨hB2, lt1_w_w2, lt_w1_w2, c0, c1, c2, c3, c4, c5, c6, c7, d0, d1, d2, d3, d4, d5, d6, d7⟩ := hS
  have le_w1_w2 : w1.heap.size ≤ w2.heap.size := by omega
  have le_w_w2 : w.heap.size ≤ w2.heap.size := by omega
  have lt_w_w2 : w.heap.size < w2.heap.size := by omega
  go_wp2_with fail
  refine (rruleMay_c _ _ _ _ _ _ _ _ _).mono ?_; rintro e w3 ⟨rfl, hb3⟩
  have hz3 := hb3.size; (try simp at hz3); obtain ⟨hc3, hf3⟩ := bcell hb3; have hB3 := below_step (w := w) hb3 (by repeat (first | assumption | exact Below.refl _ _ | (with_reducible refine Below.drew ?_) | (with_reducible refine below_drewN' ?_ _) | (with_reducible refine below_al ?_) | ((with_reducible refine below_set ?_ ?_); rotate_left; focus (first | (simp; done) | (simp; omega)))))
  have le_w_w3 : w.heap.size ≤ w3.heap.size := by omega
  try have lt_w_w3 : w.heap.size < w3.heap.size := by omega
  have le1_w_w3 : w.heap.size + 1 ≤ w3.heap.size := by omega
  try have lt1_w_w3 : w.heap.size + 1 < w3.heap.size := by omega
  have le_w1_w3 : w1.heap.size ≤ w3.heap.size := by omega
  try have lt_w1_w3 : w1.heap.size < w3.heap.size := by omega
  have le_w2_w3 : w2.heap.size ≤ w3.heap.size := by omega
  try have lt_w2_w3 : w2.heap.size < w3.heap.size := by omega
  go_wp2_with fail
  go_ret
  exact ⟨rfl, by go_split_ands; repeat (first | assumption | exact Below.refl _ _ | (with_reducible refine Below.drew ?_) | (with_reducible refine below_drewN' ?_ _) | (with_reducible refine below_al ?_) | ((with_reducible refine below_set ?_ ?_); rotate_left; focus (first | (simp; done) | (simp; omega))))⟩
set_option maxHeartbeats 8000000 in
set_option maxRecDepth 100000 in
theorem unused_yes0 (kd mo da kk off sh fr to mo' da' kk' off' y n : Int) (v : Int) (q : Bool) (hm : Rul.may 0 mo da kk off sh fr to = true) (hs : Rul.may 0 mo da kk' off' sh fr to = true) (hp : Hid (Rul.mayP 0 mo da kk off sh fr to)) (hp' : Hid (Rul.mayP 0 mo da kk' off' sh fr to)) (hv : Rul.ins 0 mo da kk off sh fr to y = v) (hv' : Rul.ins 0 mo da kk' off' sh fr to y = v) (hq : Rul.isB 0 mo da kk off sh fr to n = q) (hq' : Rul.isB 0 mo da kk' off' sh fr to n = q) (w : World) (hL : Laid w) : Calls Tryd.prog 7 #[.agg #[.int .i64 0, .int .i64 mo, .int .i64 da, .int .i64 kk, .int .i64 off, .int .i64 sh, .int .i64 fr, .int .i64 to, .int .i64 mo', .int .i64 da', .int .i64 kk', .int .i64 off', .int .i64 y, .int .i64 n]] w fun e w' => e = .returned (.bool true) ∧ Below w.heap.size w w' := by
  have hB : Below w.heap.size w w := Below.refl _ _
  go_enter Tryd.func7, Tryd.ntmps7
  go_wp2_with fail
  refine (shown12_c _ (hL.below (by repeat (first | assumption | exact Below.refl _ _ | (with_reducible refine Below.drew ?_) | (with_reducible refine below_drewN' ?_ _) | (with_reducible refine below_al ?_) | ((with_reducible refine below_set ?_ ?_); rotate_left; focus (first | (simp; done) | (simp; omega))))))).mono ?_; rintro e w1 ⟨rfl, hb1⟩
  have hz1 := hb1.size; (try simp at hz1); obtain ⟨hc1, hf1⟩ := bcell hb1; have hB1 := below_step (w := w) hb1 (by repeat (first | assumption | exact Below.refl _ _ | (with_reducible refine Below.drew ?_) | (with_reducible refine below_drewN' ?_ _) | (with_reducible refine below_al ?_) | ((with_reducible refine below_set ?_ ?_); rotate_left; focus (first | (simp; done) | (simp; omega)))))
  have le_w_w1 : w.heap.size ≤ w1.heap.size := by omega
  try have lt_w_w1 : w.heap.size < w1.heap.size := by omega
  have le1_w_w1 : w.heap.size + 1 ≤ w1.heap.size := by omega
  try have lt1_w_w1 : w.heap.size + 1 < w1.heap.size := by omega
  go_wp2_with fail
  clear hb1
  have t0 : ∀ w' : World, w' = (w1.alloc (Obj.cells #[Value.int IntKind.i64 0, Value.int IntKind.i64 mo, Value.int IntKind.i64 da, Value.int IntKind.i64 kk', Value.int IntKind.i64 off', Value.int IntKind.i64 sh, Value.int IntKind.i64 fr, Value.int IntKind.i64 to] 23)).drew → (Below w.heap.size w w' ∧ w.heap.size + 1 < w'.heap.size ∧ w1.heap.size < w'.heap.size ∧ w'.cell? ⟨w.heap.size + 1, 0, none⟩ = some (.int .i64 0) ∧ w'.cell? ⟨w.heap.size + 1, 1, none⟩ = some (.int .i64 mo) ∧ w'.cell? ⟨w.heap.size + 1, 2, none⟩ = some (.int .i64 da) ∧ w'.cell? ⟨w.heap.size + 1, 3, none⟩ = some (.int .i64 kk) ∧ w'.cell? ⟨w.heap.size + 1, 4, none⟩ = some (.int .i64 off) ∧ w'.cell? ⟨w.heap.size + 1, 5, none⟩ = some (.int .i64 sh) ∧ w'.cell? ⟨w.heap.size + 1, 6, none⟩ = some (.int .i64 fr) ∧ w'.cell? ⟨w.heap.size + 1, 7, none⟩ = some (.int .i64 to) ∧ w'.cell? ⟨w1.heap.size, 0, none⟩ = some (.int .i64 0) ∧ w'.cell? ⟨w1.heap.size, 1, none⟩ = some (.int .i64 mo) ∧ w'.cell? ⟨w1.heap.size, 2, none⟩ = some (.int .i64 da) ∧ w'.cell? ⟨w1.heap.size, 3, none⟩ = some (.int .i64 kk') ∧ w'.cell? ⟨w1.heap.size, 4, none⟩ = some (.int .i64 off') ∧ w'.cell? ⟨w1.heap.size, 5, none⟩ = some (.int .i64 sh) ∧ w'.cell? ⟨w1.heap.size, 6, none⟩ = some (.int .i64 fr) ∧ w'.cell? ⟨w1.heap.size, 7, none⟩ = some (.int .i64 to)) := by
    intro w' hw'; subst hw'
    refine ⟨?_, ?_, ?_, ?_, ?_, ?_, ?_, ?_, ?_, ?_, ?_, ?_, ?_, ?_, ?_, ?_, ?_, ?_, ?_⟩
    · repeat (first | assumption | exact Below.refl _ _ | (with_reducible refine Below.drew ?_) | (with_reducible refine below_drewN' ?_ _) | (with_reducible refine below_al ?_) | ((with_reducible refine below_set ?_ ?_); rotate_left; focus (first | (simp; done) | (simp; omega))))
    · (simp [go_sem]; try omega)
    · (simp [go_sem]; try omega)
    all_goals (simp [*, go_sem]; done)
  go_region_held3 (fun w' => Below w.heap.size w w' ∧ w.heap.size + 1 < w'.heap.size ∧ w1.heap.size < w'.heap.size ∧ w'.cell? ⟨w.heap.size + 1, 0, none⟩ = some (.int .i64 0) ∧ w'.cell? ⟨w.heap.size + 1, 1, none⟩ = some (.int .i64 mo) ∧ w'.cell? ⟨w.heap.size + 1, 2, none⟩ = some (.int .i64 da) ∧ w'.cell? ⟨w.heap.size + 1, 3, none⟩ = some (.int .i64 kk) ∧ w'.cell? ⟨w.heap.size + 1, 4, none⟩ = some (.int .i64 off) ∧ w'.cell? ⟨w.heap.size + 1, 5, none⟩ = some (.int .i64 sh) ∧ w'.cell? ⟨w.heap.size + 1, 6, none⟩ = some (.int .i64 fr) ∧ w'.cell? ⟨w.heap.size + 1, 7, none⟩ = some (.int .i64 to) ∧ w'.cell? ⟨w1.heap.size, 0, none⟩ = some (.int .i64 0) ∧ w'.cell? ⟨w1.heap.size, 1, none⟩ = some (.int .i64 mo) ∧ w'.cell? ⟨w1.heap.size, 2, none⟩ = some (.int .i64 da) ∧ w'.cell? ⟨w1.heap.size, 3, none⟩ = some (.int .i64 kk') ∧ w'.cell? ⟨w1.heap.size, 4, none⟩ = some (.int .i64 off') ∧ w'.cell? ⟨w1.heap.size, 5, none⟩ = some (.int .i64 sh) ∧ w'.cell? ⟨w1.heap.size, 6, none⟩ = some (.int .i64 fr) ∧ w'.cell? ⟨w1.heap.size, 7, none⟩ = some (.int .i64 to))
    (first | exact t0 _ rfl | (go_split_ands; obtain ⟨hc', _⟩ := bcell hb; have hz' := hb.size; refine ⟨below_step hb (by assumption), by omega, by omega, ?_, ?_, ?_, ?_, ?_, ?_, ?_, ?_, ?_, ?_, ?_, ?_, ?_, ?_, ?_, ?_⟩; all_goals exact (hc' _ _ (by omega)).trans (by assumption)) | go_keep)
    (first | (go_at_call 17; refine (ruleMay_c _ _ _ _ _ _ _ _ _ (hL.below (by go_split_ands; assumption))).mono ?_; rintro e wn ⟨rfl, hb⟩))
  clear t0
  rename World => w2
  rename (Below w.heap.size w w2 ∧ _) => hS
  obtain ⟨hB2, lt1_w_w2, lt_w1_w2, c0, c1, c2, c3, c4, c5, c6, c7, d0, d1, d2, d3, d4, d5, d6, d7⟩ := hS
  have le_w1_w2 : w1.heap.size ≤ w2.heap.size := by omega
  have le_w_w2 : w.heap.size ≤ w2.heap.size := by omega
  have lt_w_w2 : w.heap.size < w2.heap.size := by omega
  go_wp2_with fail
  refine (rruleMay_c _ _ _ _ _ _ _ _ _).mono ?_; rintro e w3 ⟨rfl, hb3⟩
  have hz3 := hb3.size; (try simp at hz3); obtain ⟨hc3, hf3⟩ := bcell hb3; have hB3 := below_step (w := w) hb3 (by repeat (first | assumption | exact Below.refl _ _ | (with_reducible refine Below.drew ?_) | (with_reducible refine below_drewN' ?_ _) | (with_reducible refine below_al ?_) | ((with_reducible refine below_set ?_ ?_); rotate_left; focus (first | (simp; done) | (simp; omega)))))
  have le_w_w3 : w.heap.size ≤ w3.heap.size := by omega
  try have lt_w_w3 : w.heap.size < w3.heap.size := by omega
  have le1_w_w3 : w.heap.size + 1 ≤ w3.heap.size := by omega
  try have lt1_w_w3 : w.heap.size + 1 < w3.heap.size := by omega
  have le_w1_w3 : w1.heap.size ≤ w3.heap.size := by omega
  try have lt_w1_w3 : w1.heap.size < w3.heap.size := by omega
  have le_w2_w3 : w2.heap.size ≤ w3.heap.size := by omega
  try have lt_w2_w3 : w2.heap.size < w3.heap.size := by omega
  go_wp2_with fail
  refine (ruleIn_c _ _ _ _ _ _ _ _ _ hp.out _ (hL.below (by repeat (first | assumption | exact Below.refl _ _ | (with_reducible refine Below.drew ?_) | (with_reducible refine below_drewN' ?_ _) | (with_reducible refine below_al ?_) | ((with_reducible refine below_set ?_ ?_); rotate_left; focus (first | (simp; done) | (simp; omega))))))).mono ?_; rintro e w4 ⟨rfl, hb4⟩
  have hz4 := hb4.size; (try simp at hz4); obtain ⟨hc4, hf4⟩ := bcell hb4; have hB4 := below_step (w := w) hb4 (by repeat (first | assumption | exact Below.refl _ _ | (with_reducible refine Below.drew ?_) | (with_reducible refine below_drewN' ?_ _) | (with_reducible refine below_al ?_) | ((with_reducible refine below_set ?_ ?_); rotate_left; focus (first | (simp; done) | (simp; omega)))))
  have le_w_w4 : w.heap.size ≤ w4.heap.size := by omega
  try have lt_w_w4 : w.heap.size < w4.heap.size := by omega
  have le1_w_w4 : w.heap.size + 1 ≤ w4.heap.size := by omega
  try have lt1_w_w4 : w.heap.size + 1 < w4.heap.size := by omega
  have le_w1_w4 : w1.heap.size ≤ w4.heap.size := by omega
  try have lt_w1_w4 : w1.heap.size < w4.heap.size := by omega
  have le_w2_w4 : w2.heap.size ≤ w4.heap.size := by omega
  try have lt_w2_w4 : w2.heap.size < w4.heap.size := by omega
  have le_w3_w4 : w3.heap.size ≤ w4.heap.size := by omega
  try have lt_w3_w4 : w3.heap.size < w4.heap.size := by omega
  go_wp2_with fail
  refine (ruleIn_c _ _ _ _ _ _ _ _ _ hp'.out _ (hL.below (by repeat (first | assumption | exact Below.refl _ _ | (with_reducible refine Below.drew ?_) | (with_reducible refine below_drewN' ?_ _) | (with_reducible refine below_al ?_) | ((with_reducible refine below_set ?_ ?_); rotate_left; focus (first | (simp; done) | (simp; omega))))))).mono ?_; rintro e w5 ⟨rfl, hb5⟩
  have hz5 := hb5.size; (try simp at hz5); obtain ⟨hc5, hf5⟩ := bcell hb5; have hB5 := below_step (w := w) hb5 (by repeat (first | assumption | exact Below.refl _ _ | (with_reducible refine Below.drew ?_) | (with_reducible refine below_drewN' ?_ _) | (with_reducible refine below_al ?_) | ((with_reducible refine below_set ?_ ?_); rotate_left; focus (first | (simp; done) | (simp; omega)))))
  have le_w_w5 : w.heap.size ≤ w5.heap.size := by omega
  try have lt_w_w5 : w.heap.size < w5.heap.size := by omega
  have le1_w_w5 : w.heap.size + 1 ≤ w5.heap.size := by omega
  try have lt1_w_w5 : w.heap.size + 1 < w5.heap.size := by omega
  have le_w1_w5 : w1.heap.size ≤ w5.heap.size := by omega
  try have lt_w1_w5 : w1.heap.size < w5.heap.size := by omega
  have le_w2_w5 : w2.heap.size ≤ w5.heap.size := by omega
  try have lt_w2_w5 : w2.heap.size < w5.heap.size := by omega
  have le_w3_w5 : w3.heap.size ≤ w5.heap.size := by omega
  try have lt_w3_w5 : w3.heap.size < w5.heap.size := by omega
  have le_w4_w5 : w4.heap.size ≤ w5.heap.size := by omega
  try have lt_w4_w5 : w4.heap.size < w5.heap.size := by omega
  go_wp2_with fail
  clear hb3 hb4 hb5
  have t0 : ∀ w' : World, w' = w5.drew → (Below w.heap.size w w' ∧ w.heap.size + 1 < w'.heap.size ∧ w1.heap.size < w'.heap.size ∧ w'.cell? ⟨w.heap.size + 1, 0, none⟩ = some (.int .i64 0) ∧ w'.cell? ⟨w.heap.size + 1, 1, none⟩ = some (.int .i64 mo) ∧ w'.cell? ⟨w.heap.size + 1, 2, none⟩ = some (.int .i64 da) ∧ w'.cell? ⟨w.heap.size + 1, 3, none⟩ = some (.int .i64 kk) ∧ w'.cell? ⟨w.heap.size + 1, 4, none⟩ = some (.int .i64 off) ∧ w'.cell? ⟨w.heap.size + 1, 5, none⟩ = some (.int .i64 sh) ∧ w'.cell? ⟨w.heap.size + 1, 6, none⟩ = some (.int .i64 fr) ∧ w'.cell? ⟨w.heap.size + 1, 7, none⟩ = some (.int .i64 to) ∧ w'.cell? ⟨w1.heap.size, 0, none⟩ = some (.int .i64 0) ∧ w'.cell? ⟨w1.heap.size, 1, none⟩ = some (.int .i64 mo) ∧ w'.cell? ⟨w1.heap.size, 2, none⟩ = some (.int .i64 da) ∧ w'.cell? ⟨w1.heap.size, 3, none⟩ = some (.int .i64 kk') ∧ w'.cell? ⟨w1.heap.size, 4, none⟩ = some (.int .i64 off') ∧ w'.cell? ⟨w1.heap.size, 5, none⟩ = some (.int .i64 sh) ∧ w'.cell? ⟨w1.heap.size, 6, none⟩ = some (.int .i64 fr) ∧ w'.cell? ⟨w1.heap.size, 7, none⟩ = some (.int .i64 to)) := by
    intro w' hw'; subst hw'
    refine ⟨?_, ?_, ?_, ?_, ?_, ?_, ?_, ?_, ?_, ?_, ?_, ?_, ?_, ?_, ?_, ?_, ?_, ?_, ?_⟩
    · repeat (first | assumption | exact Below.refl _ _ | (with_reducible refine Below.drew ?_) | (with_reducible refine below_drewN' ?_ _) | (with_reducible refine below_al ?_) | ((with_reducible refine below_set ?_ ?_); rotate_left; focus (first | (simp; done) | (simp; omega))))
    · (simp [go_sem]; try omega)
    · (simp [go_sem]; try omega)
    all_goals (simp [*, go_sem]; done)
  clear c0 c1 c2 c3 c4 c5 c6 c7 d0 d1 d2 d3 d4 d5 d6 d7 hB1 hB2 hB3 hB4 hB5 hz1 hz3 hz4 hz5 hc1 hc3 hc4 hc5 hf1 hf3 hf4 hf5 hm hs hv hv' hB
  clear le_w_w1 le_w_w2 le_w1_w2 le_w_w3 le_w1_w3 le_w2_w3 le_w_w4 le_w1_w4 le_w2_w4 le_w3_w4 le_w_w5 le_w1_w5 le_w2_w5 le_w3_w5 le_w4_w5
  generalize w.heap.size + 1 = p at *
  generalize w1.heap.size = q1 at *
  go_region_held3 (fun w' => Below w.heap.size w w' ∧ p < w'.heap.size ∧ q1 < w'.heap.size ∧ w'.cell? ⟨p, 0, none⟩ = some (.int .i64 0) ∧ w'.cell? ⟨p, 1, none⟩ = some (.int .i64 mo) ∧ w'.cell? ⟨p, 2, none⟩ = some (.int .i64 da) ∧ w'.cell? ⟨p, 3, none⟩ = some (.int .i64 kk) ∧ w'.cell? ⟨p, 4, none⟩ = some (.int .i64 off) ∧ w'.cell? ⟨p, 5, none⟩ = some (.int .i64 sh) ∧ w'.cell? ⟨p, 6, none⟩ = some (.int .i64 fr) ∧ w'.cell? ⟨p, 7, none⟩ = some (.int .i64 to) ∧ w'.cell? ⟨q1, 0, none⟩ = some (.int .i64 0) ∧ w'.cell? ⟨q1, 1, none⟩ = some (.int .i64 mo) ∧ w'.cell? ⟨q1, 2, none⟩ = some (.int .i64 da) ∧ w'.cell? ⟨q1, 3, none⟩ = some (.int .i64 kk') ∧ w'.cell? ⟨q1, 4, none⟩ = some (.int .i64 off') ∧ w'.cell? ⟨q1, 5, none⟩ = some (.int .i64 sh) ∧ w'.cell? ⟨q1, 6, none⟩ = some (.int .i64 fr) ∧ w'.cell? ⟨q1, 7, none⟩ = some (.int .i64 to))
    (first | exact t0 _ rfl | (go_split_ands; obtain ⟨hc', _⟩ := bcell hb; have hz' := hb.size; refine ⟨below_step hb (by assumption), by omega, by omega, ?_, ?_, ?_, ?_, ?_, ?_, ?_, ?_, ?_, ?_, ?_, ?_, ?_, ?_, ?_, ?_⟩; all_goals exact (hc' _ _ (by omega)).trans (by assumption)) | go_keep)
    (first | (go_at_call 22; refine (ruleIs_c _ _ _ _ _ _ _ _ _ (by first | exact hp.out | exact hp'.out) _ (hL.below (by go_split_ands; assumption))).mono ?_; rintro e wn ⟨rfl, hb⟩))
  go_wp2
  go_ret
  exact ⟨rfl, by go_split_ands; assumption⟩
set_option maxHeartbeats 8000000 in
set_option maxRecDepth 100000 in
theorem unused_no1 (kd mo da kk off sh fr to mo' da' kk' off' y n : Int) (hm : Rul.may 1 mo da kk off sh fr to = false) (hs : Rul.may 1 mo da kk off' sh fr to = false) (w : World) (hL : Laid w) : Calls Tryd.prog 7 #[.agg #[.int .i64 1, .int .i64 mo, .int .i64 da, .int .i64 kk, .int .i64 off, .int .i64 sh, .int .i64 fr, .int .i64 to, .int .i64 mo', .int .i64 da', .int .i64 kk', .int .i64 off', .int .i64 y, .int .i64 n]] w fun e w' => e = .returned (.bool true) ∧ Below w.heap.size w w' := by
  have hB : Below w.heap.size w w := Below.refl _ _
  go_enter Tryd.func7, Tryd.ntmps7
  go_wp2_with fail
  refine (shown12_c _ (hL.below (by repeat (first | assumption | exact Below.refl _ _ | (with_reducible refine Below.drew ?_) | (with_reducible refine below_drewN' ?_ _) | (with_reducible refine below_al ?_) | ((with_reducible refine below_set ?_ ?_); rotate_left; focus (first | (simp; done) | (simp; omega))))))).mono ?_; rintro e w1 ⟨rfl, hb1⟩
  have hz1 := hb1.size; (try simp at hz1); obtain ⟨hc1, hf1⟩ := bcell hb1; have hB1 := below_step (w := w) hb1 (by repeat (first | assumption | exact Below.refl _ _ | (with_reducible refine Below.drew ?_) | (with_reducible refine below_drewN' ?_ _) | (with_reducible refine below_al ?_) | ((with_reducible refine below_set ?_ ?_); rotate_left; focus (first | (simp; done) | (simp; omega)))))
  have le_w_w1 : w.heap.size ≤ w1.heap.size := by omega
  try have lt_w_w1 : w.heap.size < w1.heap.size := by omega
  have le1_w_w1 : w.heap.size + 1 ≤ w1.heap.size := by omega
  try have lt1_w_w1 : w.heap.size + 1 < w1.heap.size := by omega
  go_wp2_with fail
  clear hb1
  have t0 : ∀ w' : World, w' = (w1.alloc (Obj.cells #[Value.int IntKind.i64 1, Value.int IntKind.i64 mo, Value.int IntKind.i64 da, Value.int IntKind.i64 kk, Value.int IntKind.i64 off', Value.int IntKind.i64 sh, Value.int IntKind.i64 fr, Value.int IntKind.i64 to] 23)).drew → (Below w.heap.size w w' ∧ w.heap.size + 1 < w'.heap.size ∧ w1.heap.size < w'.heap.size ∧ w'.cell? ⟨w.heap.size + 1, 0, none⟩ = some (.int .i64 1) ∧ w'.cell? ⟨w.heap.size + 1, 1, none⟩ = some (.int .i64 mo) ∧ w'.cell? ⟨w.heap.size + 1, 2, none⟩ = some (.int .i64 da) ∧ w'.cell? ⟨w.heap.size + 1, 3, none⟩ = some (.int .i64 kk) ∧ w'.cell? ⟨w.heap.size + 1, 4, none⟩ = some (.int .i64 off) ∧ w'.cell? ⟨w.heap.size + 1, 5, none⟩ = some (.int .i64 sh) ∧ w'.cell? ⟨w.heap.size + 1, 6, none⟩ = some (.int .i64 fr) ∧ w'.cell? ⟨w.heap.size + 1, 7, none⟩ = some (.int .i64 to) ∧ w'.cell? ⟨w1.heap.size, 0, none⟩ = some (.int .i64 1) ∧ w'.cell? ⟨w1.heap.size, 1, none⟩ = some (.int .i64 mo) ∧ w'.cell? ⟨w1.heap.size, 2, none⟩ = some (.int .i64 da) ∧ w'.cell? ⟨w1.heap.size, 3, none⟩ = some (.int .i64 kk) ∧ w'.cell? ⟨w1.heap.size, 4, none⟩ = some (.int .i64 off') ∧ w'.cell? ⟨w1.heap.size, 5, none⟩ = some (.int .i64 sh) ∧ w'.cell? ⟨w1.heap.size, 6, none⟩ = some (.int .i64 fr) ∧ w'.cell? ⟨w1.heap.size, 7, none⟩ = some (.int .i64 to)) := by
    intro w' hw'; subst hw'
    refine ⟨?_, ?_, ?_, ?_, ?_, ?_, ?_, ?_, ?_, ?_, ?_, ?_, ?_, ?_, ?_, ?_, ?_, ?_, ?_⟩
    · repeat (first | assumption | exact Below.refl _ _ | (with_reducible refine Below.drew ?_) | (with_reducible refine below_drewN' ?_ _) | (with_reducible refine below_al ?_) | ((with_reducible refine below_set ?_ ?_); rotate_left; focus (first | (simp; done) | (simp; omega))))
    · (simp [go_sem]; try omega)
    · (simp [go_sem]; try omega)
    all_goals (simp [*, go_sem]; done)
  go_region_held3 (fun w' => Below w.heap.size w w' ∧ w.heap.size + 1 < w'.heap.size ∧ w1.heap.size < w'.heap.size ∧ w'.cell? ⟨w.heap.size + 1, 0, none⟩ = some (.int .i64 1) ∧ w'.cell? ⟨w.heap.size + 1, 1, none⟩ = some (.int .i64 mo) ∧ w'.cell? ⟨w.heap.size + 1, 2, none⟩ = some (.int .i64 da) ∧ w'.cell? ⟨w.heap.size + 1, 3, none⟩ = some (.int .i64 kk) ∧ w'.cell? ⟨w.heap.size + 1, 4, none⟩ = some (.int .i64 off) ∧ w'.cell? ⟨w.heap.size + 1, 5, none⟩ = some (.int .i64 sh) ∧ w'.cell? ⟨w.heap.size + 1, 6, none⟩ = some (.int .i64 fr) ∧ w'.cell? ⟨w.heap.size + 1, 7, none⟩ = some (.int .i64 to) ∧ w'.cell? ⟨w1.heap.size, 0, none⟩ = some (.int .i64 1) ∧ w'.cell? ⟨w1.heap.size, 1, none⟩ = some (.int .i64 mo) ∧ w'.cell? ⟨w1.heap.size, 2, none⟩ = some (.int .i64 da) ∧ w'.cell? ⟨w1.heap.size, 3, none⟩ = some (.int .i64 kk) ∧ w'.cell? ⟨w1.heap.size, 4, none⟩ = some (.int .i64 off') ∧ w'.cell? ⟨w1.heap.size, 5, none⟩ = some (.int .i64 sh) ∧ w'.cell? ⟨w1.heap.size, 6, none⟩ = some (.int .i64 fr) ∧ w'.cell? ⟨w1.heap.size, 7, none⟩ = some (.int .i64 to))
    (first | exact t0 _ rfl | (go_split_ands; obtain ⟨hc', _⟩ := bcell hb; have hz' := hb.size; refine ⟨below_step hb (by assumption), by omega, by omega, ?_, ?_, ?_, ?_, ?_, ?_, ?_, ?_, ?_, ?_, ?_, ?_, ?_, ?_, ?_, ?_⟩; all_goals exact (hc' _ _ (by omega)).trans (by assumption)) | go_keep)
    (first | (go_at_call 17; refine (ruleMay_c _ _ _ _ _ _ _ _ _ (hL.below (by go_split_ands; assumption))).mono ?_; rintro e wn ⟨rfl, hb⟩))
  clear t0
  rename World => w2
  rename (Below w.heap.size w w2 ∧ _) => hS
  obtain ⟨hB2, lt1_w_w2, lt_w1_w2, c0, c1, c2, c3, c4, c5, c6, c7, d0, d1, d2, d3, d4, d5, d6, d7⟩ := hS
  have le_w1_w2 : w1.heap.size ≤ w2.heap.size := by omega
  have le_w_w2 : w.heap.size ≤ w2.heap.size := by omega
  have lt_w_w2 : w.heap.size < w2.heap.size := by omega
  go_wp2_with fail
  refine (rruleMay_c _ _ _ _ _ _ _ _ _).mono ?_; rintro e w3 ⟨rfl, hb3⟩
  have hz3 := hb3.size; (try simp at hz3); obtain ⟨hc3, hf3⟩ := bcell hb3; have hB3 := below_step (w := w) hb3 (by repeat (first | assumption | exact Below.refl _ _ | (with_reducible refine Below.drew ?_) | (with_reducible refine below_drewN' ?_ _) | (with_reducible refine below_al ?_) | ((with_reducible refine below_set ?_ ?_); rotate_left; focus (first | (simp; done) | (simp; omega)))))
  have le_w_w3 : w.heap.size ≤ w3.heap.size := by omega
  try have lt_w_w3 : w.heap.size < w3.heap.size := by omega
  have le1_w_w3 : w.heap.size + 1 ≤ w3.heap.size := by omega
  try have lt1_w_w3 : w.heap.size + 1 < w3.heap.size := by omega
  have le_w1_w3 : w1.heap.size ≤ w3.heap.size := by omega
  try have lt_w1_w3 : w1.heap.size < w3.heap.size := by omega
  have le_w2_w3 : w2.heap.size ≤ w3.heap.size := by omega
  try have lt_w2_w3 : w2.heap.size < w3.heap.size := by omega
  go_wp2_with fail
  go_ret
  exact ⟨rfl, by go_split_ands; repeat (first | assumption | exact Below.refl _ _ | (with_reducible refine Below.drew ?_) | (with_reducible refine below_drewN' ?_ _) | (with_reducible refine below_al ?_) | ((with_reducible refine below_set ?_ ?_); rotate_left; focus (first | (simp; done) | (simp; omega))))⟩
set_option maxHeartbeats 8000000 in
set_option maxRecDepth 100000 in
theorem unused_yes1 (kd mo da kk off sh fr to mo' da' kk' off' y n : Int) (v : Int) (q : Bool) (hm : Rul.may 1 mo da kk off sh fr to = true) (hs : Rul.may 1 mo da kk off' sh fr to = true) (hp : Hid (Rul.mayP 1 mo da kk off sh fr to)) (hp' : Hid (Rul.mayP 1 mo da kk off' sh fr to)) (hv : Rul.ins 1 mo da kk off sh fr to y = v) (hv' : Rul.ins 1 mo da kk off' sh fr to y = v) (hq : Rul.isB 1 mo da kk off sh fr to n = q) (hq' : Rul.isB 1 mo da kk off' sh fr to n = q) (w : World) (hL : Laid w) : Calls Tryd.prog 7 #[.agg #[.int .i64 1, .int .i64 mo, .int .i64 da, .int .i64 kk, .int .i64 off, .int .i64 sh, .int .i64 fr, .int .i64 to, .int .i64 mo', .int .i64 da', .int .i64 kk', .int .i64 off', .int .i64 y, .int .i64 n]] w fun e w' => e = .returned (.bool true) ∧ Below w.heap.size w w' := by
  have hB : Below w.heap.size w w := Below.refl _ _
  go_enter Tryd.func7, Tryd.ntmps7
  go_wp2_with fail
  refine (shown12_c _ (hL.below (by repeat (first | assumption | exact Below.refl _ _ | (with_reducible refine Below.drew ?_) | (with_reducible refine below_drewN' ?_ _) | (with_reducible refine below_al ?_) | ((with_reducible refine below_set ?_ ?_); rotate_left; focus (first | (simp; done) | (simp; omega))))))).mono ?_; rintro e w1 ⟨rfl, hb1⟩
  have hz1 := hb1.size; (try simp at hz1); obtain ⟨hc1, hf1⟩ := bcell hb1; have hB1 := below_step (w := w) hb1 (by repeat (first | assumption | exact Below.refl _ _ | (with_reducible refine Below.drew ?_) | (with_reducible refine below_drewN' ?_ _) | (with_reducible refine below_al ?_) | ((with_reducible refine below_set ?_ ?_); rotate_left; focus (first | (simp; done) | (simp; omega)))))
  have le_w_w1 : w.heap.size ≤ w1.heap.size := by omega
  try have lt_w_w1 : w.heap.size < w1.heap.size := by omega
  have le1_w_w1 : w.heap.size + 1 ≤ w1.heap.size := by omega
  try have lt1_w_w1 : w.heap.size + 1 < w1.heap.size := by omega
  go_wp2_with fail
  clear hb1
  have t0 : ∀ w' : World, w' = (w1.alloc (Obj.cells #[Value.int IntKind.i64 1, Value.int IntKind.i64 mo, Value.int IntKind.i64 da, Value.int IntKind.i64 kk, Value.int IntKind.i64 off', Value.int IntKind.i64 sh, Value.int IntKind.i64 fr, Value.int IntKind.i64 to] 23)).drew → (Below w.heap.size w w' ∧ w.heap.size + 1 < w'.heap.size ∧ w1.heap.size < w'.heap.size ∧ w'.cell? ⟨w.heap.size + 1, 0, none⟩ = some (.int .i64 1) ∧ w'.cell? ⟨w.heap.size + 1, 1, none⟩ = some (.int .i64 mo) ∧ w'.cell? ⟨w.heap.size + 1, 2, none⟩ = some (.int .i64 da) ∧ w'.cell? ⟨w.heap.size + 1, 3, none⟩ = some (.int .i64 kk) ∧ w'.cell? ⟨w.heap.size + 1, 4, none⟩ = some (.int .i64 off) ∧ w'.cell? ⟨w.heap.size + 1, 5, none⟩ = some (.int .i64 sh) ∧ w'.cell? ⟨w.heap.size + 1, 6, none⟩ = some (.int .i64 fr) ∧ w'.cell? ⟨w.heap.size + 1, 7, none⟩ = some (.int .i64 to) ∧ w'.cell? ⟨w1.heap.size, 0, none⟩ = some (.int .i64 1) ∧ w'.cell? ⟨w1.heap.size, 1, none⟩ = some (.int .i64 mo) ∧ w'.cell? ⟨w1.heap.size, 2, none⟩ = some (.int .i64 da) ∧ w'.cell? ⟨w1.heap.size, 3, none⟩ = some (.int .i64 kk) ∧ w'.cell? ⟨w1.heap.size, 4, none⟩ = some (.int .i64 off') ∧ w'.cell? ⟨w1.heap.size, 5, none⟩ = some (.int .i64 sh) ∧ w'.cell? ⟨w1.heap.size, 6, none⟩ = some (.int .i64 fr) ∧ w'.cell? ⟨w1.heap.size, 7, none⟩ = some (.int .i64 to)) := by
    intro w' hw'; subst hw'
    refine ⟨?_, ?_, ?_, ?_, ?_, ?_, ?_, ?_, ?_, ?_, ?_, ?_, ?_, ?_, ?_, ?_, ?_, ?_, ?_⟩
    · repeat (first | assumption | exact Below.refl _ _ | (with_reducible refine Below.drew ?_) | (with_reducible refine below_drewN' ?_ _) | (with_reducible refine below_al ?_) | ((with_reducible refine below_set ?_ ?_); rotate_left; focus (first | (simp; done) | (simp; omega))))
    · (simp [go_sem]; try omega)
    · (simp [go_sem]; try omega)
    all_goals (simp [*, go_sem]; done)
  go_region_held3 (fun w' => Below w.heap.size w w' ∧ w.heap.size + 1 < w'.heap.size ∧ w1.heap.size < w'.heap.size ∧ w'.cell? ⟨w.heap.size + 1, 0, none⟩ = some (.int .i64 1) ∧ w'.cell? ⟨w.heap.size + 1, 1, none⟩ = some (.int .i64 mo) ∧ w'.cell? ⟨w.heap.size + 1, 2, none⟩ = some (.int .i64 da) ∧ w'.cell? ⟨w.heap.size + 1, 3, none⟩ = some (.int .i64 kk) ∧ w'.cell? ⟨w.heap.size + 1, 4, none⟩ = some (.int .i64 off) ∧ w'.cell? ⟨w.heap.size + 1, 5, none⟩ = some (.int .i64 sh) ∧ w'.cell? ⟨w.heap.size + 1, 6, none⟩ = some (.int .i64 fr) ∧ w'.cell? ⟨w.heap.size + 1, 7, none⟩ = some (.int .i64 to) ∧ w'.cell? ⟨w1.heap.size, 0, none⟩ = some (.int .i64 1) ∧ w'.cell? ⟨w1.heap.size, 1, none⟩ = some (.int .i64 mo) ∧ w'.cell? ⟨w1.heap.size, 2, none⟩ = some (.int .i64 da) ∧ w'.cell? ⟨w1.heap.size, 3, none⟩ = some (.int .i64 kk) ∧ w'.cell? ⟨w1.heap.size, 4, none⟩ = some (.int .i64 off') ∧ w'.cell? ⟨w1.heap.size, 5, none⟩ = some (.int .i64 sh) ∧ w'.cell? ⟨w1.heap.size, 6, none⟩ = some (.int .i64 fr) ∧ w'.cell? ⟨w1.heap.size, 7, none⟩ = some (.int .i64 to))
    (first | exact t0 _ rfl | (go_split_ands; obtain ⟨hc', _⟩ := bcell hb; have hz' := hb.size; refine ⟨below_step hb (by assumption), by omega, by omega, ?_, ?_, ?_, ?_, ?_, ?_, ?_, ?_, ?_, ?_, ?_, ?_, ?_, ?_, ?_, ?_⟩; all_goals exact (hc' _ _ (by omega)).trans (by assumption)) | go_keep)
    (first | (go_at_call 17; refine (ruleMay_c _ _ _ _ _ _ _ _ _ (hL.below (by go_split_ands; assumption))).mono ?_; rintro e wn ⟨rfl, hb⟩))
  clear t0
  rename World => w2
  rename (Below w.heap.size w w2 ∧ _) => hS
  obtain ⟨hB2, lt1_w_w2, lt_w1_w2, c0, c1, c2, c3, c4, c5, c6, c7, d0, d1, d2, d3, d4, d5, d6, d7⟩ := hS
  have le_w1_w2 : w1.heap.size ≤ w2.heap.size := by omega
  have le_w_w2 : w.heap.size ≤ w2.heap.size := by omega
  have lt_w_w2 : w.heap.size < w2.heap.size := by omega
  go_wp2_with fail
  refine (rruleMay_c _ _ _ _ _ _ _ _ _).mono ?_; rintro e w3 ⟨rfl, hb3⟩
  have hz3 := hb3.size; (try simp at hz3); obtain ⟨hc3, hf3⟩ := bcell hb3; have hB3 := below_step (w := w) hb3 (by repeat (first | assumption | exact Below.refl _ _ | (with_reducible refine Below.drew ?_) | (with_reducible refine below_drewN' ?_ _) | (with_reducible refine below_al ?_) | ((with_reducible refine below_set ?_ ?_); rotate_left; focus (first | (simp; done) | (simp; omega)))))
  have le_w_w3 : w.heap.size ≤ w3.heap.size := by omega
  try have lt_w_w3 : w.heap.size < w3.heap.size := by omega
  have le1_w_w3 : w.heap.size + 1 ≤ w3.heap.size := by omega
  try have lt1_w_w3 : w.heap.size + 1 < w3.heap.size := by omega
  have le_w1_w3 : w1.heap.size ≤ w3.heap.size := by omega
  try have lt_w1_w3 : w1.heap.size < w3.heap.size := by omega
  have le_w2_w3 : w2.heap.size ≤ w3.heap.size := by omega
  try have lt_w2_w3 : w2.heap.size < w3.heap.size := by omega
  go_wp2_with fail
  refine (ruleIn_c _ _ _ _ _ _ _ _ _ hp.out _ (hL.below (by repeat (first | assumption | exact Below.refl _ _ | (with_reducible refine Below.drew ?_) | (with_reducible refine below_drewN' ?_ _) | (with_reducible refine below_al ?_) | ((with_reducible refine below_set ?_ ?_); rotate_left; focus (first | (simp; done) | (simp; omega))))))).mono ?_; rintro e w4 ⟨rfl, hb4⟩
  have hz4 := hb4.size; (try simp at hz4); obtain ⟨hc4, hf4⟩ := bcell hb4; have hB4 := below_step (w := w) hb4 (by repeat (first | assumption | exact Below.refl _ _ | (with_reducible refine Below.drew ?_) | (with_reducible refine below_drewN' ?_ _) | (with_reducible refine below_al ?_) | ((with_reducible refine below_set ?_ ?_); rotate_left; focus (first | (simp; done) | (simp; omega)))))
  have le_w_w4 : w.heap.size ≤ w4.heap.size := by omega
  try have lt_w_w4 : w.heap.size < w4.heap.size := by omega
  have le1_w_w4 : w.heap.size + 1 ≤ w4.heap.size := by omega
  try have lt1_w_w4 : w.heap.size + 1 < w4.heap.size := by omega
  have le_w1_w4 : w1.heap.size ≤ w4.heap.size := by omega
  try have lt_w1_w4 : w1.heap.size < w4.heap.size := by omega
  have le_w2_w4 : w2.heap.size ≤ w4.heap.size := by omega
  try have lt_w2_w4 : w2.heap.size < w4.heap.size := by omega
  have le_w3_w4 : w3.heap.size ≤ w4.heap.size := by omega
  try have lt_w3_w4 : w3.heap.size < w4.heap.size := by omega
  go_wp2_with fail
  refine (ruleIn_c _ _ _ _ _ _ _ _ _ hp'.out _ (hL.below (by repeat (first | assumption | exact Below.refl _ _ | (with_reducible refine Below.drew ?_) | (with_reducible refine below_drewN' ?_ _) | (with_reducible refine below_al ?_) | ((with_reducible refine below_set ?_ ?_); rotate_left; focus (first | (simp; done) | (simp; omega))))))).mono ?_; rintro e w5 ⟨rfl, hb5⟩
  have hz5 := hb5.size; (try simp at hz5); obtain ⟨hc5, hf5⟩ := bcell hb5; have hB5 := below_step (w := w) hb5 (by repeat (first | assumption | exact Below.refl _ _ | (with_reducible refine Below.drew ?_) | (with_reducible refine below_drewN' ?_ _) | (with_reducible refine below_al ?_) | ((with_reducible refine below_set ?_ ?_); rotate_left; focus (first | (simp; done) | (simp; omega)))))
  have le_w_w5 : w.heap.size ≤ w5.heap.size := by omega
  try have lt_w_w5 : w.heap.size < w5.heap.size := by omega
  have le1_w_w5 : w.heap.size + 1 ≤ w5.heap.size := by omega
  try have lt1_w_w5 : w.heap.size + 1 < w5.heap.size := by omega
  have le_w1_w5 : w1.heap.size ≤ w5.heap.size := by omega
  try have lt_w1_w5 : w1.heap.size < w5.heap.size := by omega
  have le_w2_w5 : w2.heap.size ≤ w5.heap.size := by omega
  try have lt_w2_w5 : w2.heap.size < w5.heap.size := by omega
  have le_w3_w5 : w3.heap.size ≤ w5.heap.size := by omega
  try have lt_w3_w5 : w3.heap.size < w5.heap.size := by omega
  have le_w4_w5 : w4.heap.size ≤ w5.heap.size := by omega
  try have lt_w4_w5 : w4.heap.size < w5.heap.size := by omega
  go_wp2_with fail
  clear hb3 hb4 hb5
  have t0 : ∀ w' : World, w' = w5.drew → (Below w.heap.size w w' ∧ w.heap.size + 1 < w'.heap.size ∧ w1.heap.size < w'.heap.size ∧ w'.cell? ⟨w.heap.size + 1, 0, none⟩ = some (.int .i64 1) ∧ w'.cell? ⟨w.heap.size + 1, 1, none⟩ = some (.int .i64 mo) ∧ w'.cell? ⟨w.heap.size + 1, 2, none⟩ = some (.int .i64 da) ∧ w'.cell? ⟨w.heap.size + 1, 3, none⟩ = some (.int .i64 kk) ∧ w'.cell? ⟨w.heap.size + 1, 4, none⟩ = some (.int .i64 off) ∧ w'.cell? ⟨w.heap.size + 1, 5, none⟩ = some (.int .i64 sh) ∧ w'.cell? ⟨w.heap.size + 1, 6, none⟩ = some (.int .i64 fr) ∧ w'.cell? ⟨w.heap.size + 1, 7, none⟩ = some (.int .i64 to) ∧ w'.cell? ⟨w1.heap.size, 0, none⟩ = some (.int .i64 1) ∧ w'.cell? ⟨w1.heap.size, 1, none⟩ = some (.int .i64 mo) ∧ w'.cell? ⟨w1.heap.size, 2, none⟩ = some (.int .i64 da) ∧ w'.cell? ⟨w1.heap.size, 3, none⟩ = some (.int .i64 kk) ∧ w'.cell? ⟨w1.heap.size, 4, none⟩ = some (.int .i64 off') ∧ w'.cell? ⟨w1.heap.size, 5, none⟩ = some (.int .i64 sh) ∧ w'.cell? ⟨w1.heap.size, 6, none⟩ = some (.int .i64 fr) ∧ w'.cell? ⟨w1.heap.size, 7, none⟩ = some (.int .i64 to)) := by
    intro w' hw'; subst hw'
    refine ⟨?_, ?_, ?_, ?_, ?_, ?_, ?_, ?_, ?_, ?_, ?_, ?_, ?_, ?_, ?_, ?_, ?_, ?_, ?_⟩
    · repeat (first | assumption | exact Below.refl _ _ | (with_reducible refine Below.drew ?_) | (with_reducible refine below_drewN' ?_ _) | (with_reducible refine below_al ?_) | ((with_reducible refine below_set ?_ ?_); rotate_left; focus (first | (simp; done) | (simp; omega))))
    · (simp [go_sem]; try omega)
    · (simp [go_sem]; try omega)
    all_goals (simp [*, go_sem]; done)
  clear c0 c1 c2 c3 c4 c5 c6 c7 d0 d1 d2 d3 d4 d5 d6 d7 hB1 hB2 hB3 hB4 hB5 hz1 hz3 hz4 hz5 hc1 hc3 hc4 hc5 hf1 hf3 hf4 hf5 hm hs hv hv' hB
  clear le_w_w1 le_w_w2 le_w1_w2 le_w_w3 le_w1_w3 le_w2_w3 le_w_w4 le_w1_w4 le_w2_w4 le_w3_w4 le_w_w5 le_w1_w5 le_w2_w5 le_w3_w5 le_w4_w5
  generalize w.heap.size + 1 = p at *
  generalize w1.heap.size = q1 at *
  go_region_held3 (fun w' => Below w.heap.size w w' ∧ p < w'.heap.size ∧ q1 < w'.heap.size ∧ w'.cell? ⟨p, 0, none⟩ = some (.int .i64 1) ∧ w'.cell? ⟨p, 1, none⟩ = some (.int .i64 mo) ∧ w'.cell? ⟨p, 2, none⟩ = some (.int .i64 da) ∧ w'.cell? ⟨p, 3, none⟩ = some (.int .i64 kk) ∧ w'.cell? ⟨p, 4, none⟩ = some (.int .i64 off) ∧ w'.cell? ⟨p, 5, none⟩ = some (.int .i64 sh) ∧ w'.cell? ⟨p, 6, none⟩ = some (.int .i64 fr) ∧ w'.cell? ⟨p, 7, none⟩ = some (.int .i64 to) ∧ w'.cell? ⟨q1, 0, none⟩ = some (.int .i64 1) ∧ w'.cell? ⟨q1, 1, none⟩ = some (.int .i64 mo) ∧ w'.cell? ⟨q1, 2, none⟩ = some (.int .i64 da) ∧ w'.cell? ⟨q1, 3, none⟩ = some (.int .i64 kk) ∧ w'.cell? ⟨q1, 4, none⟩ = some (.int .i64 off') ∧ w'.cell? ⟨q1, 5, none⟩ = some (.int .i64 sh) ∧ w'.cell? ⟨q1, 6, none⟩ = some (.int .i64 fr) ∧ w'.cell? ⟨q1, 7, none⟩ = some (.int .i64 to))
    (first | exact t0 _ rfl | (go_split_ands; obtain ⟨hc', _⟩ := bcell hb; have hz' := hb.size; refine ⟨below_step hb (by assumption), by omega, by omega, ?_, ?_, ?_, ?_, ?_, ?_, ?_, ?_, ?_, ?_, ?_, ?_, ?_, ?_, ?_, ?_⟩; all_goals exact (hc' _ _ (by omega)).trans (by assumption)) | go_keep)
    (first | (go_at_call 22; refine (ruleIs_c _ _ _ _ _ _ _ _ _ (by first | exact hp.out | exact hp'.out) _ (hL.below (by go_split_ands; assumption))).mono ?_; rintro e wn ⟨rfl, hb⟩))
  go_wp2
  go_ret
  exact ⟨rfl, by go_split_ands; assumption⟩
set_option maxHeartbeats 8000000 in
set_option maxRecDepth 100000 in
theorem unused_no2 (kd mo da kk off sh fr to mo' da' kk' off' y n : Int) (hm : Rul.may 2 mo da kk off sh fr to = false) (hs : Rul.may 2 mo da kk' off' sh fr to = false) (w : World) (hL : Laid w) : Calls Tryd.prog 7 #[.agg #[.int .i64 2, .int .i64 mo, .int .i64 da, .int .i64 kk, .int .i64 off, .int .i64 sh, .int .i64 fr, .int .i64 to, .int .i64 mo', .int .i64 da', .int .i64 kk', .int .i64 off', .int .i64 y, .int .i64 n]] w fun e w' => e = .returned (.bool true) ∧ Below w.heap.size w w' := by
  have hB : Below w.heap.size w w := Below.refl _ _
  go_enter Tryd.func7, Tryd.ntmps7
  go_wp2_with fail
  refine (shown12_c _ (hL.below (by repeat (first | assumption | exact Below.refl _ _ | (with_reducible refine Below.drew ?_) | (with_reducible refine below_drewN' ?_ _) | (with_reducible refine below_al ?_) | ((with_reducible refine below_set ?_ ?_); rotate_left; focus (first | (simp; done) | (simp; omega))))))).mono ?_; rintro e w1 ⟨rfl, hb1⟩
  have hz1 := hb1.size; (try simp at hz1); obtain ⟨hc1, hf1⟩ := bcell hb1; have hB1 := below_step (w := w) hb1 (by repeat (first | assumption | exact Below.refl _ _ | (with_reducible refine Below.drew ?_) | (with_reducible refine below_drewN' ?_ _) | (with_reducible refine below_al ?_) | ((with_reducible refine below_set ?_ ?_); rotate_left; focus (first | (simp; done) | (simp; omega)))))
  have le_w_w1 : w.heap.size ≤ w1.heap.size := by omega
  try have lt_w_w1 : w.heap.size < w1.heap.size := by omega
  have le1_w_w1 : w.heap.size + 1 ≤ w1.heap.size := by omega
  try have lt1_w_w1 : w.heap.size + 1 < w1.heap.size := by omega
  go_wp2_with fail
  clear hb1
  have t0 : ∀ w' : World, w' = (w1.alloc (Obj.cells #[Value.int IntKind.i64 2, Value.int IntKind.i64 mo, Value.int IntKind.i64 da, Value.int IntKind.i64 kk', Value.int IntKind.i64 off', Value.int IntKind.i64 sh, Value.int IntKind.i64 fr, Value.int IntKind.i64 to] 23)).drew → (Below w.heap.size w w' ∧ w.heap.size + 1 < w'.heap.size ∧ w1.heap.size < w'.heap.size ∧ w'.cell? ⟨w.heap.size + 1, 0, none⟩ = some (.int .i64 2) ∧ w'.cell? ⟨w.heap.size + 1, 1, none⟩ = some (.int .i64 mo) ∧ w'.cell? ⟨w.heap.size + 1, 2, none⟩ = some (.int .i64 da) ∧ w'.cell? ⟨w.heap.size + 1, 3, none⟩ = some (.int .i64 kk) ∧ w'.cell? ⟨w.heap.size + 1, 4, none⟩ = some (.int .i64 off) ∧ w'.cell? ⟨w.heap.size + 1, 5, none⟩ = some (.int .i64 sh) ∧ w'.cell? ⟨w.heap.size + 1, 6, none⟩ = some (.int .i64 fr) ∧ w'.cell? ⟨w.heap.size + 1, 7, none⟩ = some (.int .i64 to) ∧ w'.cell? ⟨w1.heap.size, 0, none⟩ = some (.int .i64 2) ∧ w'.cell? ⟨w1.heap.size, 1, none⟩ = some (.int .i64 mo) ∧ w'.cell? ⟨w1.heap.size, 2, none⟩ = some (.int .i64 da) ∧ w'.cell? ⟨w1.heap.size, 3, none⟩ = some (.int .i64 kk') ∧ w'.cell? ⟨w1.heap.size, 4, none⟩ = some (.int .i64 off') ∧ w'.cell? ⟨w1.heap.size, 5, none⟩ = some (.int .i64 sh) ∧ w'.cell? ⟨w1.heap.size, 6, none⟩ = some (.int .i64 fr) ∧ w'.cell? ⟨w1.heap.size, 7, none⟩ = some (.int .i64 to)) := by
    intro w' hw'; subst hw'
    refine ⟨?_, ?_, ?_, ?_, ?_, ?_, ?_, ?_, ?_, ?_, ?_, ?_, ?_, ?_, ?_, ?_, ?_, ?_, ?_⟩
    · repeat (first | assumption | exact Below.refl _ _ | (with_reducible refine Below.drew ?_) | (with_reducible refine below_drewN' ?_ _) | (with_reducible refine below_al ?_) | ((with_reducible refine below_set ?_ ?_); rotate_left; focus (first | (simp; done) | (simp; omega))))
    · (simp [go_sem]; try omega)
    · (simp [go_sem]; try omega)
    all_goals (simp [*, go_sem]; done)
  go_region_held3 (fun w' => Below w.heap.size w w' ∧ w.heap.size + 1 < w'.heap.size ∧ w1.heap.size < w'.heap.size ∧ w'.cell? ⟨w.heap.size + 1, 0, none⟩ = some (.int .i64 2) ∧ w'.cell? ⟨w.heap.size + 1, 1, none⟩ = some (.int .i64 mo) ∧ w'.cell? ⟨w.heap.size + 1, 2, none⟩ = some (.int .i64 da) ∧ w'.cell? ⟨w.heap.size + 1, 3, none⟩ = some (.int .i64 kk) ∧ w'.cell? ⟨w.heap.size + 1, 4, none⟩ = some (.int .i64 off) ∧ w'.cell? ⟨w.heap.size + 1, 5, none⟩ = some (.int .i64 sh) ∧ w'.cell? ⟨w.heap.size + 1, 6, none⟩ = some (.int .i64 fr) ∧ w'.cell? ⟨w.heap.size + 1, 7, none⟩ = some (.int .i64 to) ∧ w'.cell? ⟨w1.heap.size, 0, none⟩ = some (.int .i64 2) ∧ w'.cell? ⟨w1.heap.size, 1, none⟩ = some (.int .i64 mo) ∧ w'.cell? ⟨w1.heap.size, 2, none⟩ = some (.int .i64 da) ∧ w'.cell? ⟨w1.heap.size, 3, none⟩ = some (.int .i64 kk') ∧ w'.cell? ⟨w1.heap.size, 4, none⟩ = some (.int .i64 off') ∧ w'.cell? ⟨w1.heap.size, 5, none⟩ = some (.int .i64 sh) ∧ w'.cell? ⟨w1.heap.size, 6, none⟩ = some (.int .i64 fr) ∧ w'.cell? ⟨w1.heap.size, 7, none⟩ = some (.int .i64 to))
    (first | exact t0 _ rfl | (go_split_ands; obtain ⟨hc', _⟩ := bcell hb; have hz' := hb.size; refine ⟨below_step hb (by assumption), by omega, by omega, ?_, ?_, ?_, ?_, ?_, ?_, ?_, ?_, ?_, ?_, ?_, ?_, ?_, ?_, ?_, ?_⟩; all_goals exact (hc' _ _ (by omega)).trans (by assumption)) | go_keep)
    (first | (go_at_call 17; refine (ruleMay_c _ _ _ _ _ _ _ _ _ (hL.below (by go_split_ands; assumption))).mono ?_; rintro e wn ⟨rfl, hb⟩))
  clear t0
  rename World => w2
  rename (Below w.heap.size w w2 ∧ _) => hS
  obtain ⟨hB2, lt1_w_w2, lt_w1_w2, c0, c1, c2, c3, c4, c5, c6, c7, d0, d1, d2, d3, d4, d5, d6, d7⟩ := hS
  have le_w1_w2 : w1.heap.size ≤ w2.heap.size := by omega
  have le_w_w2 : w.heap.size ≤ w2.heap.size := by omega
  have lt_w_w2 : w.heap.size < w2.heap.size := by omega
  go_wp2_with fail
  refine (rruleMay_c _ _ _ _ _ _ _ _ _).mono ?_; rintro e w3 ⟨rfl, hb3⟩
  have hz3 := hb3.size; (try simp at hz3); obtain ⟨hc3, hf3⟩ := bcell hb3; have hB3 := below_step (w := w) hb3 (by repeat (first | assumption | exact Below.refl _ _ | (with_reducible refine Below.drew ?_) | (with_reducible refine below_drewN' ?_ _) | (with_reducible refine below_al ?_) | ((with_reducible refine below_set ?_ ?_); rotate_left; focus (first | (simp; done) | (simp; omega)))))
  have le_w_w3 : w.heap.size ≤ w3.heap.size := by omega
  try have lt_w_w3 : w.heap.size < w3.heap.size := by omega
  have le1_w_w3 : w.heap.size + 1 ≤ w3.heap.size := by omega
  try have lt1_w_w3 : w.heap.size + 1 < w3.heap.size := by omega
  have le_w1_w3 : w1.heap.size ≤ w3.heap.size := by omega
  try have lt_w1_w3 : w1.heap.size < w3.heap.size := by omega
  have le_w2_w3 : w2.heap.size ≤ w3.heap.size := by omega
  try have lt_w2_w3 : w2.heap.size < w3.heap.size := by omega
  go_wp2_with fail
  go_ret
  exact ⟨rfl, by go_split_ands; repeat (first | assumption | exact Below.refl _ _ | (with_reducible refine Below.drew ?_) | (with_reducible refine below_drewN' ?_ _) | (with_reducible refine below_al ?_) | ((with_reducible refine below_set ?_ ?_); rotate_left; focus (first | (simp; done) | (simp; omega))))⟩
set_option maxHeartbeats 8000000 in
set_option maxRecDepth 100000 in
theorem unused_yes2 (kd mo da kk off sh fr to mo' da' kk' off' y n : Int) (v : Int) (q : Bool) (hm : Rul.may 2 mo da kk off sh fr to = true) (hs : Rul.may 2 mo da kk' off' sh fr to = true) (hp : Hid (Rul.mayP 2 mo da kk off sh fr to)) (hp' : Hid (Rul.mayP 2 mo da kk' off' sh fr to)) (hv : Rul.ins 2 mo da kk off sh fr to y = v) (hv' : Rul.ins 2 mo da kk' off' sh fr to y = v) (hq : Rul.isB 2 mo da kk off sh fr to n = q) (hq' : Rul.isB 2 mo da kk' off' sh fr to n = q) (w : World) (hL : Laid w) : Calls Tryd.prog 7 #[.agg #[.int .i64 2, .int .i64 mo, .int .i64 da, .int .i64 kk, .int .i64 off, .int .i64 sh, .int .i64 fr, .int .i64 to, .int .i64 mo', .int .i64 da', .int .i64 kk', .int .i64 off', .int .i64 y, .int .i64 n]] w fun e w' => e = .returned (.bool true) ∧ Below w.heap.size w w' := by
  have hB : Below w.heap.size w w := Below.refl _ _
  go_enter Tryd.func7, Tryd.ntmps7
  go_wp2_with fail
  refine (shown12_c _ (hL.below (by repeat (first | assumption | exact Below.refl _ _ | (with_reducible refine Below.drew ?_) | (with_reducible refine below_drewN' ?_ _) | (with_reducible refine below_al ?_) | ((with_reducible refine below_set ?_ ?_); rotate_left; focus (first | (simp; done) | (simp; omega))))))).mono ?_; rintro e w1 ⟨rfl, hb1⟩
  have hz1 := hb1.size; (try simp at hz1); obtain ⟨hc1, hf1⟩ := bcell hb1; have hB1 := below_step (w := w) hb1 (by repeat (first | assumption | exact Below.refl _ _ | (with_reducible refine Below.drew ?_) | (with_reducible refine below_drewN' ?_ _) | (with_reducible refine below_al ?_) | ((with_reducible refine below_set ?_ ?_); rotate_left; focus (first | (simp; done) | (simp; omega)))))
  have le_w_w1 : w.heap.size ≤ w1.heap.size := by omega
  try have lt_w_w1 : w.heap.size < w1.heap.size := by omega
  have le1_w_w1 : w.heap.size + 1 ≤ w1.heap.size := by omega
  try have lt1_w_w1 : w.heap.size + 1 < w1.heap.size := by omega
  go_wp2_with fail
  clear hb1
  have t0 : ∀ w' : World, w' = (w1.alloc (Obj.cells #[Value.int IntKind.i64 2, Value.int IntKind.i64 mo, Value.int IntKind.i64 da, Value.int IntKind.i64 kk', Value.int IntKind.i64 off', Value.int IntKind.i64 sh, Value.int IntKind.i64 fr, Value.int IntKind.i64 to] 23)).drew → (Below w.heap.size w w' ∧ w.heap.size + 1 < w'.heap.size ∧ w1.heap.size < w'.heap.size ∧ w'.cell? ⟨w.heap.size + 1, 0, none⟩ = some (.int .i64 2) ∧ w'.cell? ⟨w.heap.size + 1, 1, none⟩ = some (.int .i64 mo) ∧ w'.cell? ⟨w.heap.size + 1, 2, none⟩ = some (.int .i64 da) ∧ w'.cell? ⟨w.heap.size + 1, 3, none⟩ = some (.int .i64 kk) ∧ w'.cell? ⟨w.heap.size + 1, 4, none⟩ = some (.int .i64 off) ∧ w'.cell? ⟨w.heap.size + 1, 5, none⟩ = some (.int .i64 sh) ∧ w'.cell? ⟨w.heap.size + 1, 6, none⟩ = some (.int .i64 fr) ∧ w'.cell? ⟨w.heap.size + 1, 7, none⟩ = some (.int .i64 to) ∧ w'.cell? ⟨w1.heap.size, 0, none⟩ = some (.int .i64 2) ∧ w'.cell? ⟨w1.heap.size, 1, none⟩ = some (.int .i64 mo) ∧ w'.cell? ⟨w1.heap.size, 2, none⟩ = some (.int .i64 da) ∧ w'.cell? ⟨w1.heap.size, 3, none⟩ = some (.int .i64 kk') ∧ w'.cell? ⟨w1.heap.size, 4, none⟩ = some (.int .i64 off') ∧ w'.cell? ⟨w1.heap.size, 5, none⟩ = some (.int .i64 sh) ∧ w'.cell? ⟨w1.heap.size, 6, none⟩ = some (.int .i64 fr) ∧ w'.cell? ⟨w1.heap.size, 7, none⟩ = some (.int .i64 to)) := by
    intro w' hw'; subst hw'
    refine ⟨?_, ?_, ?_, ?_, ?_, ?_, ?_, ?_, ?_, ?_, ?_, ?_, ?_, ?_, ?_, ?_, ?_, ?_, ?_⟩
    · repeat (first | assumption | exact Below.refl _ _ | (with_reducible refine Below.drew ?_) | (with_reducible refine below_drewN' ?_ _) | (with_reducible refine below_al ?_) | ((with_reducible refine below_set ?_ ?_); rotate_left; focus (first | (simp; done) | (simp; omega))))
    · (simp [go_sem]; try omega)
    · (simp [go_sem]; try omega)
    all_goals (simp [*, go_sem]; done)
  go_region_held3 (fun w' => Below w.heap.size w w' ∧ w.heap.size + 1 < w'.heap.size ∧ w1.heap.size < w'.heap.size ∧ w'.cell? ⟨w.heap.size + 1, 0, none⟩ = some (.int .i64 2) ∧ w'.cell? ⟨w.heap.size + 1, 1, none⟩ = some (.int .i64 mo) ∧ w'.cell? ⟨w.heap.size + 1, 2, none⟩ = some (.int .i64 da) ∧ w'.cell? ⟨w.heap.size + 1, 3, none⟩ = some (.int .i64 kk) ∧ w'.cell? ⟨w.heap.size + 1, 4, none⟩ = some (.int .i64 off) ∧ w'.cell? ⟨w.heap.size + 1, 5, none⟩ = some (.int .i64 sh) ∧ w'.cell? ⟨w.heap.size + 1, 6, none⟩ = some (.int .i64 fr) ∧ w'.cell? ⟨w.heap.size + 1, 7, none⟩ = some (.int .i64 to) ∧ w'.cell? ⟨w1.heap.size, 0, none⟩ = some (.int .i64 2) ∧ w'.cell? ⟨w1.heap.size, 1, none⟩ = some (.int .i64 mo) ∧ w'.cell? ⟨w1.heap.size, 2, none⟩ = some (.int .i64 da) ∧ w'.cell? ⟨w1.heap.size, 3, none⟩ = some (.int .i64 kk') ∧ w'.cell? ⟨w1.heap.size, 4, none⟩ = some (.int .i64 off') ∧ w'.cell? ⟨w1.heap.size, 5, none⟩ = some (.int .i64 sh) ∧ w'.cell? ⟨w1.heap.size, 6, none⟩ = some (.int .i64 fr) ∧ w'.cell? ⟨w1.heap.size, 7, none⟩ = some (.int .i64 to))
    (first | exact t0 _ rfl | (go_split_ands; obtain ⟨hc', _⟩ := bcell hb; have hz' := hb.size; refine ⟨below_step hb (by assumption), by omega, by omega, ?_, ?_, ?_, ?_, ?_, ?_, ?_, ?_, ?_, ?_, ?_, ?_, ?_, ?_, ?_, ?_⟩; all_goals exact (hc' _ _ (by omega)).trans (by assumption)) | go_keep)
    (first | (go_at_call 17; refine (ruleMay_c _ _ _ _ _ _ _ _ _ (hL.below (by go_split_ands; assumption))).mono ?_; rintro e wn ⟨rfl, hb⟩))
  clear t0
  rename World => w2
  rename (Below w.heap.size w w2 ∧ _) => hS
  obtain ⟨hB2, lt1_w_w2, lt_w1_w2, c0, c1, c2, c3, c4, c5, c6, c7, d0, d1, d2, d3, d4, d5, d6, d7⟩ := hS
  have le_w1_w2 : w1.heap.size ≤ w2.heap.size := by omega
  have le_w_w2 : w.heap.size ≤ w2.heap.size := by omega
  have lt_w_w2 : w.heap.size < w2.heap.size := by omega
  go_wp2_with fail
  refine (rruleMay_c _ _ _ _ _ _ _ _ _).mono ?_; rintro e w3 ⟨rfl, hb3⟩
  have hz3 := hb3.size; (try simp at hz3); obtain ⟨hc3, hf3⟩ := bcell hb3; have hB3 := below_step (w := w) hb3 (by repeat (first | assumption | exact Below.refl _ _ | (with_reducible refine Below.drew ?_) | (with_reducible refine below_drewN' ?_ _) | (with_reducible refine below_al ?_) | ((with_reducible refine below_set ?_ ?_); rotate_left; focus (first | (simp; done) | (simp; omega)))))
  have le_w_w3 : w.heap.size ≤ w3.heap.size := by omega
  try have lt_w_w3 : w.heap.size < w3.heap.size := by omega
  have le1_w_w3 : w.heap.size + 1 ≤ w3.heap.size := by omega
  try have lt1_w_w3 : w.heap.size + 1 < w3.heap.size := by omega
  have le_w1_w3 : w1.heap.size ≤ w3.heap.size := by omega
  try have lt_w1_w3 : w1.heap.size < w3.heap.size := by omega
  have le_w2_w3 : w2.heap.size ≤ w3.heap.size := by omega
  try have lt_w2_w3 : w2.heap.size < w3.heap.size := by omega
  go_wp2_with fail
  refine (ruleIn_c _ _ _ _ _ _ _ _ _ hp.out _ (hL.below (by repeat (first | assumption | exact Below.refl _ _ | (with_reducible refine Below.drew ?_) | (with_reducible refine below_drewN' ?_ _) | (with_reducible refine below_al ?_) | ((with_reducible refine below_set ?_ ?_); rotate_left; focus (first | (simp; done) | (simp; omega))))))).mono ?_; rintro e w4 ⟨rfl, hb4⟩
  have hz4 := hb4.size; (try simp at hz4); obtain ⟨hc4, hf4⟩ := bcell hb4; have hB4 := below_step (w := w) hb4 (by repeat (first | assumption | exact Below.refl _ _ | (with_reducible refine Below.drew ?_) | (with_reducible refine below_drewN' ?_ _) | (with_reducible refine below_al ?_) | ((with_reducible refine below_set ?_ ?_); rotate_left; focus (first | (simp; done) | (simp; omega)))))
  have le_w_w4 : w.heap.size ≤ w4.heap.size := by omega
  try have lt_w_w4 : w.heap.size < w4.heap.size := by omega
  have le1_w_w4 : w.heap.size + 1 ≤ w4.heap.size := by omega
  try have lt1_w_w4 : w.heap.size + 1 < w4.heap.size := by omega
  have le_w1_w4 : w1.heap.size ≤ w4.heap.size := by omega
  try have lt_w1_w4 : w1.heap.size < w4.heap.size := by omega
  have le_w2_w4 : w2.heap.size ≤ w4.heap.size := by omega
  try have lt_w2_w4 : w2.heap.size < w4.heap.size := by omega
  have le_w3_w4 : w3.heap.size ≤ w4.heap.size := by omega
  try have lt_w3_w4 : w3.heap.size < w4.heap.size := by omega
  go_wp2_with fail
  refine (ruleIn_c _ _ _ _ _ _ _ _ _ hp'.out _ (hL.below (by repeat (first | assumption | exact Below.refl _ _ | (with_reducible refine Below.drew ?_) | (with_reducible refine below_drewN' ?_ _) | (with_reducible refine below_al ?_) | ((with_reducible refine below_set ?_ ?_); rotate_left; focus (first | (simp; done) | (simp; omega))))))).mono ?_; rintro e w5 ⟨rfl, hb5⟩
  have hz5 := hb5.size; (try simp at hz5); obtain ⟨hc5, hf5⟩ := bcell hb5; have hB5 := below_step (w := w) hb5 (by repeat (first | assumption | exact Below.refl _ _ | (with_reducible refine Below.drew ?_) | (with_reducible refine below_drewN' ?_ _) | (with_reducible refine below_al ?_) | ((with_reducible refine below_set ?_ ?_); rotate_left; focus (first | (simp; done) | (simp; omega)))))
  have le_w_w5 : w.heap.size ≤ w5.heap.size := by omega
  try have lt_w_w5 : w.heap.size < w5.heap.size := by omega
  have le1_w_w5 : w.heap.size + 1 ≤ w5.heap.size := by omega
  try have lt1_w_w5 : w.heap.size + 1 < w5.heap.size := by omega
  have le_w1_w5 : w1.heap.size ≤ w5.heap.size := by omega
  try have lt_w1_w5 : w1.heap.size < w5.heap.size := by omega
  have le_w2_w5 : w2.heap.size ≤ w5.heap.size := by omega
  try have lt_w2_w5 : w2.heap.size < w5.heap.size := by omega
  have le_w3_w5 : w3.heap.size ≤ w5.heap.size := by omega
  try have lt_w3_w5 : w3.heap.size < w5.heap.size := by omega
  have le_w4_w5 : w4.heap.size ≤ w5.heap.size := by omega
  try have lt_w4_w5 : w4.heap.size < w5.heap.size := by omega
  go_wp2_with fail
  clear hb3 hb4 hb5
  have t0 : ∀ w' : World, w' = w5.drew → (Below w.heap.size w w' ∧ w.heap.size + 1 < w'.heap.size ∧ w1.heap.size < w'.heap.size ∧ w'.cell? ⟨w.heap.size + 1, 0, none⟩ = some (.int .i64 2) ∧ w'.cell? ⟨w.heap.size + 1, 1, none⟩ = some (.int .i64 mo) ∧ w'.cell? ⟨w.heap.size + 1, 2, none⟩ = some (.int .i64 da) ∧ w'.cell? ⟨w.heap.size + 1, 3, none⟩ = some (.int .i64 kk) ∧ w'.cell? ⟨w.heap.size + 1, 4, none⟩ = some (.int .i64 off) ∧ w'.cell? ⟨w.heap.size + 1, 5, none⟩ = some (.int .i64 sh) ∧ w'.cell? ⟨w.heap.size + 1, 6, none⟩ = some (.int .i64 fr) ∧ w'.cell? ⟨w.heap.size + 1, 7, none⟩ = some (.int .i64 to) ∧ w'.cell? ⟨w1.heap.size, 0, none⟩ = some (.int .i64 2) ∧ w'.cell? ⟨w1.heap.size, 1, none⟩ = some (.int .i64 mo) ∧ w'.cell? ⟨w1.heap.size, 2, none⟩ = some (.int .i64 da) ∧ w'.cell? ⟨w1.heap.size, 3, none⟩ = some (.int .i64 kk') ∧ w'.cell? ⟨w1.heap.size, 4, none⟩ = some (.int .i64 off') ∧ w'.cell? ⟨w1.heap.size, 5, none⟩ = some (.int .i64 sh) ∧ w'.cell? ⟨w1.heap.size, 6, none⟩ = some (.int .i64 fr) ∧ w'.cell? ⟨w1.heap.size, 7, none⟩ = some (.int .i64 to)) := by
    intro w' hw'; subst hw'
    refine ⟨?_, ?_, ?_, ?_, ?_, ?_, ?_, ?_, ?_, ?_, ?_, ?_, ?_, ?_, ?_, ?_, ?_, ?_, ?_⟩
    · repeat (first | assumption | exact Below.refl _ _ | (with_reducible refine Below.drew ?_) | (with_reducible refine below_drewN' ?_ _) | (with_reducible refine below_al ?_) | ((with_reducible refine below_set ?_ ?_); rotate_left; focus (first | (simp; done) | (simp; omega))))
    · (simp [go_sem]; try omega)
    · (simp [go_sem]; try omega)
    all_goals (simp [*, go_sem]; done)
  clear c0 c1 c2 c3 c4 c5 c6 c7 d0 d1 d2 d3 d4 d5 d6 d7 hB1 hB2 hB3 hB4 hB5 hz1 hz3 hz4 hz5 hc1 hc3 hc4 hc5 hf1 hf3 hf4 hf5 hm hs hv hv' hB
  clear le_w_w1 le_w_w2 le_w1_w2 le_w_w3 le_w1_w3 le_w2_w3 le_w_w4 le_w1_w4 le_w2_w4 le_w3_w4 le_w_w5 le_w1_w5 le_w2_w5 le_w3_w5 le_w4_w5
  generalize w.heap.size + 1 = p at *
  generalize w1.heap.size = q1 at *
  go_region_held3 (fun w' => Below w.heap.size w w' ∧ p < w'.heap.size ∧ q1 < w'.heap.size ∧ w'.cell? ⟨p, 0, none⟩ = some (.int .i64 2) ∧ w'.cell? ⟨p, 1, none⟩ = some (.int .i64 mo) ∧ w'.cell? ⟨p, 2, none⟩ = some (.int .i64 da) ∧ w'.cell? ⟨p, 3, none⟩ = some (.int .i64 kk) ∧ w'.cell? ⟨p, 4, none⟩ = some (.int .i64 off) ∧ w'.cell? ⟨p, 5, none⟩ = some (.int .i64 sh) ∧ w'.cell? ⟨p, 6, none⟩ = some (.int .i64 fr) ∧ w'.cell? ⟨p, 7, none⟩ = some (.int .i64 to) ∧ w'.cell? ⟨q1, 0, none⟩ = some (.int .i64 2) ∧ w'.cell? ⟨q1, 1, none⟩ = some (.int .i64 mo) ∧ w'.cell? ⟨q1, 2, none⟩ = some (.int .i64 da) ∧ w'.cell? ⟨q1, 3, none⟩ = some (.int .i64 kk') ∧ w'.cell? ⟨q1, 4, none⟩ = some (.int .i64 off') ∧ w'.cell? ⟨q1, 5, none⟩ = some (.int .i64 sh) ∧ w'.cell? ⟨q1, 6, none⟩ = some (.int .i64 fr) ∧ w'.cell? ⟨q1, 7, none⟩ = some (.int .i64 to))
    (first | exact t0 _ rfl | (go_split_ands; obtain ⟨hc', _⟩ := bcell hb; have hz' := hb.size; refine ⟨below_step hb (by assumption), by omega, by omega, ?_, ?_, ?_, ?_, ?_, ?_, ?_, ?_, ?_, ?_, ?_, ?_, ?_, ?_, ?_, ?_⟩; all_goals exact (hc' _ _ (by omega)).trans (by assumption)) | go_keep)
    (first | (go_at_call 22; refine (ruleIs_c _ _ _ _ _ _ _ _ _ (by first | exact hp.out | exact hp'.out) _ (hL.below (by go_split_ands; assumption))).mono ?_; rintro e wn ⟨rfl, hb⟩))
  go_wp2
  go_ret
  exact ⟨rfl, by go_split_ands; assumption⟩
set_option maxHeartbeats 8000000 in
set_option maxRecDepth 100000 in
theorem unused_no3 (kd mo da kk off sh fr to mo' da' kk' off' y n : Int) (hm : Rul.may 3 mo da kk off sh fr to = false) (hs : Rul.may 3 mo' da' kk' off sh fr to = false) (w : World) (hL : Laid w) : Calls Tryd.prog 7 #[.agg #[.int .i64 3, .int .i64 mo, .int .i64 da, .int .i64 kk, .int .i64 off, .int .i64 sh, .int .i64 fr, .int .i64 to, .int .i64 mo', .int .i64 da', .int .i64 kk', .int .i64 off', .int .i64 y, .int .i64 n]] w fun e w' => e = .returned (.bool true) ∧ Below w.heap.size w w' := by
  have hB : Below w.heap.size w w := Below.refl _ _
  go_enter Tryd.func7, Tryd.ntmps7
  go_wp2_with fail
  refine (shown12_c _ (hL.below (by repeat (first | assumption | exact Below.refl _ _ | (with_reducible refine Below.drew ?_) | (with_reducible refine below_drewN' ?_ _) | (with_reducible refine below_al ?_) | ((with_reducible refine below_set ?_ ?_); rotate_left; focus (first | (simp; done) | (simp; omega))))))).mono ?_; rintro e w1 ⟨rfl, hb1⟩
  have hz1 := hb1.size; (try simp at hz1); obtain ⟨hc1, hf1⟩ := bcell hb1; have hB1 := below_step (w := w) hb1 (by repeat (first | assumption | exact Below.refl _ _ | (with_reducible refine Below.drew ?_) | (with_reducible refine below_drewN' ?_ _) | (with_reducible refine below_al ?_) | ((with_reducible refine below_set ?_ ?_); rotate_left; focus (first | (simp; done) | (simp; omega)))))
  have le_w_w1 : w.heap.size ≤ w1.heap.size := by omega
  try have lt_w_w1 : w.heap.size < w1.heap.size := by omega
  have le1_w_w1 : w.heap.size + 1 ≤ w1.heap.size := by omega
  try have lt1_w_w1 : w.heap.size + 1 < w1.heap.size := by omega
  go_wp2_with fail
  clear hb1
  have t0 : ∀ w' : World, w' = (w1.alloc (Obj.cells #[Value.int IntKind.i64 3, Value.int IntKind.i64 mo', Value.int IntKind.i64 da', Value.int IntKind.i64 kk', Value.int IntKind.i64 off, Value.int IntKind.i64 sh, Value.int IntKind.i64 fr, Value.int IntKind.i64 to] 23)).drew → (Below w.heap.size w w' ∧ w.heap.size + 1 < w'.heap.size ∧ w1.heap.size < w'.heap.size ∧ w'.cell? ⟨w.heap.size + 1, 0, none⟩ = some (.int .i64 3) ∧ w'.cell? ⟨w.heap.size + 1, 1, none⟩ = some (.int .i64 mo) ∧ w'.cell? ⟨w.heap.size + 1, 2, none⟩ = some (.int .i64 da) ∧ w'.cell? ⟨w.heap.size + 1, 3, none⟩ = some (.int .i64 kk) ∧ w'.cell? ⟨w.heap.size + 1, 4, none⟩ = some (.int .i64 off) ∧ w'.cell? ⟨w.heap.size + 1, 5, none⟩ = some (.int .i64 sh) ∧ w'.cell? ⟨w.heap.size + 1, 6, none⟩ = some (.int .i64 fr) ∧ w'.cell? ⟨w.heap.size + 1, 7, none⟩ = some (.int .i64 to) ∧ w'.cell? ⟨w1.heap.size, 0, none⟩ = some (.int .i64 3) ∧ w'.cell? ⟨w1.heap.size, 1, none⟩ = some (.int .i64 mo') ∧ w'.cell? ⟨w1.heap.size, 2, none⟩ = some (.int .i64 da') ∧ w'.cell? ⟨w1.heap.size, 3, none⟩ = some (.int .i64 kk') ∧ w'.cell? ⟨w1.heap.size, 4, none⟩ = some (.int .i64 off) ∧ w'.cell? ⟨w1.heap.size, 5, none⟩ = some (.int .i64 sh) ∧ w'.cell? ⟨w1.heap.size, 6, none⟩ = some (.int .i64 fr) ∧ w'.cell? ⟨w1.heap.size, 7, none⟩ = some (.int .i64 to)) := by
    intro w' hw'; subst hw'
    refine ⟨?_, ?_, ?_, ?_, ?_, ?_, ?_, ?_, ?_, ?_, ?_, ?_, ?_, ?_, ?_, ?_, ?_, ?_, ?_⟩
    · repeat (first | assumption | exact Below.refl _ _ | (with_reducible refine Below.drew ?_) | (with_reducible refine below_drewN' ?_ _) | (with_reducible refine below_al ?_) | ((with_reducible refine below_set ?_ ?_); rotate_left; focus (first | (simp; done) | (simp; omega))))
    · (simp [go_sem]; try omega)
    · (simp [go_sem]; try omega)
    all_goals (simp [*, go_sem]; done)
  go_region_held3 (fun w' => Below w.heap.size w w' ∧ w.heap.size + 1 < w'.heap.size ∧ w1.heap.size < w'.heap.size ∧ w'.cell? ⟨w.heap.size + 1, 0, none⟩ = some (.int .i64 3) ∧ w'.cell? ⟨w.heap.size + 1, 1, none⟩ = some (.int .i64 mo) ∧ w'.cell? ⟨w.heap.size + 1, 2, none⟩ = some (.int .i64 da) ∧ w'.cell? ⟨w.heap.size + 1, 3, none⟩ = some (.int .i64 kk) ∧ w'.cell? ⟨w.heap.size + 1, 4, none⟩ = some (.int .i64 off) ∧ w'.cell? ⟨w.heap.size + 1, 5, none⟩ = some (.int .i64 sh) ∧ w'.cell? ⟨w.heap.size + 1, 6, none⟩ = some (.int .i64 fr) ∧ w'.cell? ⟨w.heap.size + 1, 7, none⟩ = some (.int .i64 to) ∧ w'.cell? ⟨w1.heap.size, 0, none⟩ = some (.int .i64 3) ∧ w'.cell? ⟨w1.heap.size, 1, none⟩ = some (.int .i64 mo') ∧ w'.cell? ⟨w1.heap.size, 2, none⟩ = some (.int .i64 da') ∧ w'.cell? ⟨w1.heap.size, 3, none⟩ = some (.int .i64 kk') ∧ w'.cell? ⟨w1.heap.size, 4, none⟩ = some (.int .i64 off) ∧ w'.cell? ⟨w1.heap.size, 5, none⟩ = some (.int .i64 sh) ∧ w'.cell? ⟨w1.heap.size, 6, none⟩ = some (.int .i64 fr) ∧ w'.cell? ⟨w1.heap.size, 7, none⟩ = some (.int .i64 to))
    (first | exact t0 _ rfl | (go_split_ands; obtain ⟨hc', _⟩ := bcell hb; have hz' := hb.size; refine ⟨below_step hb (by assumption), by omega, by omega, ?_, ?_, ?_, ?_, ?_, ?_, ?_, ?_, ?_, ?_, ?_, ?_, ?_, ?_, ?_, ?_⟩; all_goals exact (hc' _ _ (by omega)).trans (by assumption)) | go_keep)
    (first | (go_at_call 17; refine (ruleMay_c _ _ _ _ _ _ _ _ _ (hL.below (by go_split_ands; assumption))).mono ?_; rintro e wn ⟨rfl, hb⟩))
  clear t0
  rename World => w2
  rename (Below w.heap.size w w2 ∧ _) => hS
  obtain ⟨hB2, lt1_w_w2, lt_w1_w2, c0, c1, c2, c3, c4, c5, c6, c7, d0, d1, d2, d3, d4, d5, d6, d7⟩ := hS
  have le_w1_w2 : w1.heap.size ≤ w2.heap.size := by omega
  have le_w_w2 : w.heap.size ≤ w2.heap.size := by omega
  have lt_w_w2 : w.heap.size < w2.heap.size := by omega
  go_wp2_with fail
  refine (rruleMay_c _ _ _ _ _ _ _ _ _).mono ?_; rintro e w3 ⟨rfl, hb3⟩
  have hz3 := hb3.size; (try simp at hz3); obtain ⟨hc3, hf3⟩ := bcell hb3; have hB3 := below_step (w := w) hb3 (by repeat (first | assumption | exact Below.refl _ _ | (with_reducible refine Below.drew ?_) | (with_reducible refine below_drewN' ?_ _) | (with_reducible refine below_al ?_) | ((with_reducible refine below_set ?_ ?_); rotate_left; focus (first | (simp; done) | (simp; omega)))))
  have le_w_w3 : w.heap.size ≤ w3.heap.size := by omega
  try have lt_w_w3 : w.heap.size < w3.heap.size := by omega
  have le1_w_w3 : w.heap.size + 1 ≤ w3.heap.size := by omega
  try have lt1_w_w3 : w.heap.size + 1 < w3.heap.size := by omega
  have le_w1_w3 : w1.heap.size ≤ w3.heap.size := by omega
  try have lt_w1_w3 : w1.heap.size < w3.heap.size := by omega
  have le_w2_w3 : w2.heap.size ≤ w3.heap.size := by omega
  try have lt_w2_w3 : w2.heap.size < w3.heap.size := by omega
  go_wp2_with fail
  go_ret
  exact ⟨rfl, by go_split_ands; repeat (first | assumption | exact Below.refl _ _ | (with_reducible refine Below.drew ?_) | (with_reducible refine below_drewN' ?_ _) | (with_reducible refine below_al ?_) | ((with_reducible refine below_set ?_ ?_); rotate_left; focus (first | (simp; done) | (simp; omega))))⟩
set_option maxHeartbeats 8000000 in
set_option maxRecDepth 100000 in
theorem unused_yes3 (kd mo da kk off sh fr to mo' da' kk' off' y n : Int) (v : Int) (q : Bool) (hm : Rul.may 3 mo da kk off sh fr to = true) (hs : Rul.may 3 mo' da' kk' off sh fr to = true) (hp : Hid (Rul.mayP 3 mo da kk off sh fr to)) (hp' : Hid (Rul.mayP 3 mo' da' kk' off sh fr to)) (hv : Rul.ins 3 mo da kk off sh fr to y = v) (hv' : Rul.ins 3 mo' da' kk' off sh fr to y = v) (hq : Rul.isB 3 mo da kk off sh fr to n = q) (hq' : Rul.isB 3 mo' da' kk' off sh fr to n = q) (w : World) (hL : Laid w) : Calls Tryd.prog 7 #[.agg #[.int .i64 3, .int .i64 mo, .int .i64 da, .int .i64 kk, .int .i64 off, .int .i64 sh, .int .i64 fr, .int .i64 to, .int .i64 mo', .int .i64 da', .int .i64 kk', .int .i64 off', .int .i64 y, .int .i64 n]] w fun e w' => e = .returned (.bool true) ∧ Below w.heap.size w w' := by
  have hB : Below w.heap.size w w := Below.refl _ _
  go_enter Tryd.func7, Tryd.ntmps7
  go_wp2_with fail
  refine (shown12_c _ (hL.below (by repeat (first | assumption | exact Below.refl _ _ | (with_reducible refine Below.drew ?_) | (with_reducible refine below_drewN' ?_ _) | (with_reducible refine below_al ?_) | ((with_reducible refine below_set ?_ ?_); rotate_left; focus (first | (simp; done) | (simp; omega))))))).mono ?_; rintro e w1 ⟨rfl, hb1⟩
  have hz1 := hb1.size; (try simp at hz1); obtain ⟨hc1, hf1⟩ := bcell hb1; have hB1 := below_step (w := w) hb1 (by repeat (first | assumption | exact Below.refl _ _ | (with_reducible refine Below.drew ?_) | (with_reducible refine below_drewN' ?_ _) | (with_reducible refine below_al ?_) | ((with_reducible refine below_set ?_ ?_); rotate_left; focus (first | (simp; done) | (simp; omega)))))
  have le_w_w1 : w.heap.size ≤ w1.heap.size := by omega
  try have lt_w_w1 : w.heap.size < w1.heap.size := by omega
  have le1_w_w1 : w.heap.size + 1 ≤ w1.heap.size := by omega
  try have lt1_w_w1 : w.heap.size + 1 < w1.heap.size := by omega
  go_wp2_with fail
  clear hb1
  have t0 : ∀ w' : World, w' = (w1.alloc (Obj.cells #[Value.int IntKind.i64 3, Value.int IntKind.i64 mo', Value.int IntKind.i64 da', Value.int IntKind.i64 kk', Value.int IntKind.i64 off, Value.int IntKind.i64 sh, Value.int IntKind.i64 fr, Value.int IntKind.i64 to] 23)).drew → (Below w.heap.size w w' ∧ w.heap.size + 1 < w'.heap.size ∧ w1.heap.size < w'.heap.size ∧ w'.cell? ⟨w.heap.size + 1, 0, none⟩ = some (.int .i64 3) ∧ w'.cell? ⟨w.heap.size + 1, 1, none⟩ = some (.int .i64 mo) ∧ w'.cell? ⟨w.heap.size + 1, 2, none⟩ = some (.int .i64 da) ∧ w'.cell? ⟨w.heap.size + 1, 3, none⟩ = some (.int .i64 kk) ∧ w'.cell? ⟨w.heap.size + 1, 4, none⟩ = some (.int .i64 off) ∧ w'.cell? ⟨w.heap.size + 1, 5, none⟩ = some (.int .i64 sh) ∧ w'.cell? ⟨w.heap.size + 1, 6, none⟩ = some (.int .i64 fr) ∧ w'.cell? ⟨w.heap.size + 1, 7, none⟩ = some (.int .i64 to) ∧ w'.cell? ⟨w1.heap.size, 0, none⟩ = some (.int .i64 3) ∧ w'.cell? ⟨w1.heap.size, 1, none⟩ = some (.int .i64 mo') ∧ w'.cell? ⟨w1.heap.size, 2, none⟩ = some (.int .i64 da') ∧ w'.cell? ⟨w1.heap.size, 3, none⟩ = some (.int .i64 kk') ∧ w'.cell? ⟨w1.heap.size, 4, none⟩ = some (.int .i64 off) ∧ w'.cell? ⟨w1.heap.size, 5, none⟩ = some (.int .i64 sh) ∧ w'.cell? ⟨w1.heap.size, 6, none⟩ = some (.int .i64 fr) ∧ w'.cell? ⟨w1.heap.size, 7, none⟩ = some (.int .i64 to)) := by
    intro w' hw'; subst hw'
    refine ⟨?_, ?_, ?_, ?_, ?_, ?_, ?_, ?_, ?_, ?_, ?_, ?_, ?_, ?_, ?_, ?_, ?_, ?_, ?_⟩
    · repeat (first | assumption | exact Below.refl _ _ | (with_reducible refine Below.drew ?_) | (with_reducible refine below_drewN' ?_ _) | (with_reducible refine below_al ?_) | ((with_reducible refine below_set ?_ ?_); rotate_left; focus (first | (simp; done) | (simp; omega))))
    · (simp [go_sem]; try omega)
    · (simp [go_sem]; try omega)
    all_goals (simp [*, go_sem]; done)
  go_region_held3 (fun w' => Below w.heap.size w w' ∧ w.heap.size + 1 < w'.heap.size ∧ w1.heap.size < w'.heap.size ∧ w'.cell? ⟨w.heap.size + 1, 0, none⟩ = some (.int .i64 3) ∧ w'.cell? ⟨w.heap.size + 1, 1, none⟩ = some (.int .i64 mo) ∧ w'.cell? ⟨w.heap.size + 1, 2, none⟩ = some (.int .i64 da) ∧ w'.cell? ⟨w.heap.size + 1, 3, none⟩ = some (.int .i64 kk) ∧ w'.cell? ⟨w.heap.size + 1, 4, none⟩ = some (.int .i64 off) ∧ w'.cell? ⟨w.heap.size + 1, 5, none⟩ = some (.int .i64 sh) ∧ w'.cell? ⟨w.heap.size + 1, 6, none⟩ = some (.int .i64 fr) ∧ w'.cell? ⟨w.heap.size + 1, 7, none⟩ = some (.int .i64 to) ∧ w'.cell? ⟨w1.heap.size, 0, none⟩ = some (.int .i64 3) ∧ w'.cell? ⟨w1.heap.size, 1, none⟩ = some (.int .i64 mo') ∧ w'.cell? ⟨w1.heap.size, 2, none⟩ = some (.int .i64 da') ∧ w'.cell? ⟨w1.heap.size, 3, none⟩ = some (.int .i64 kk') ∧ w'.cell? ⟨w1.heap.size, 4, none⟩ = some (.int .i64 off) ∧ w'.cell? ⟨w1.heap.size, 5, none⟩ = some (.int .i64 sh) ∧ w'.cell? ⟨w1.heap.size, 6, none⟩ = some (.int .i64 fr) ∧ w'.cell? ⟨w1.heap.size, 7, none⟩ = some (.int .i64 to))
    (first | exact t0 _ rfl | (go_split_ands; obtain ⟨hc', _⟩ := bcell hb; have hz' := hb.size; refine ⟨below_step hb (by assumption), by omega, by omega, ?_, ?_, ?_, ?_, ?_, ?_, ?_, ?_, ?_, ?_, ?_, ?_, ?_, ?_, ?_, ?_⟩; all_goals exact (hc' _ _ (by omega)).trans (by assumption)) | go_keep)
    (first | (go_at_call 17; refine (ruleMay_c _ _ _ _ _ _ _ _ _ (hL.below (by go_split_ands; assumption))).mono ?_; rintro e wn ⟨rfl, hb⟩))
  clear t0
  rename World => w2
  rename (Below w.heap.size w w2 ∧ _) => hS
  obtain ⟨hB2, lt1_w_w2, lt_w1_w2, c0, c1, c2, c3, c4, c5, c6, c7, d0, d1, d2, d3, d4, d5, d6, d7⟩ := hS
  have le_w1_w2 : w1.heap.size ≤ w2.heap.size := by omega
  have le_w_w2 : w.heap.size ≤ w2.heap.size := by omega
  have lt_w_w2 : w.heap.size < w2.heap.size := by omega
  go_wp2_with fail
  refine (rruleMay_c _ _ _ _ _ _ _ _ _).mono ?_; rintro e w3 ⟨rfl, hb3⟩
  have hz3 := hb3.size; (try simp at hz3); obtain ⟨hc3, hf3⟩ := bcell hb3; have hB3 := below_step (w := w) hb3 (by repeat (first | assumption | exact Below.refl _ _ | (with_reducible refine Below.drew ?_) | (with_reducible refine below_drewN' ?_ _) | (with_reducible refine below_al ?_) | ((with_reducible refine below_set ?_ ?_); rotate_left; focus (first | (simp; done) | (simp; omega)))))
  have le_w_w3 : w.heap.size ≤ w3.heap.size := by omega
  try have lt_w_w3 : w.heap.size < w3.heap.size := by omega
  have le1_w_w3 : w.heap.size + 1 ≤ w3.heap.size := by omega
  try have lt1_w_w3 : w.heap.size + 1 < w3.heap.size := by omega
  have le_w1_w3 : w1.heap.size ≤ w3.heap.size := by omega
  try have lt_w1_w3 : w1.heap.size < w3.heap.size := by omega
  have le_w2_w3 : w2.heap.size ≤ w3.heap.size := by omega
  try have lt_w2_w3 : w2.heap.size < w3.heap.size := by omega
  go_wp2_with fail
  refine (ruleIn_c _ _ _ _ _ _ _ _ _ hp.out _ (hL.below (by repeat (first | assumption | exact Below.refl _ _ | (with_reducible refine Below.drew ?_) | (with_reducible refine below_drewN' ?_ _) | (with_reducible refine below_al ?_) | ((with_reducible refine below_set ?_ ?_); rotate_left; focus (first | (simp; done) | (simp; omega))))))).mono ?_; rintro e w4 ⟨rfl, hb4⟩
  have hz4 := hb4.size; (try simp at hz4); obtain ⟨hc4, hf4⟩ := bcell hb4; have hB4 := below_step (w := w) hb4 (by repeat (first | assumption | exact Below.refl _ _ | (with_reducible refine Below.drew ?_) | (with_reducible refine below_drewN' ?_ _) | (with_reducible refine below_al ?_) | ((with_reducible refine below_set ?_ ?_); rotate_left; focus (first | (simp; done) | (simp; omega)))))
  have le_w_w4 : w.heap.size ≤ w4.heap.size := by omega
  try have lt_w_w4 : w.heap.size < w4.heap.size := by omega
  have le1_w_w4 : w.heap.size + 1 ≤ w4.heap.size := by omega
  try have lt1_w_w4 : w.heap.size + 1 < w4.heap.size := by omega
  have le_w1_w4 : w1.heap.size ≤ w4.heap.size := by omega
  try have lt_w1_w4 : w1.heap.size < w4.heap.size := by omega
  have le_w2_w4 : w2.heap.size ≤ w4.heap.size := by omega
  try have lt_w2_w4 : w2.heap.size < w4.heap.size := by omega
  have le_w3_w4 : w3.heap.size ≤ w4.heap.size := by omega
  try have lt_w3_w4 : w3.heap.size < w4.heap.size := by omega
  go_wp2_with fail
  refine (ruleIn_c _ _ _ _ _ _ _ _ _ hp'.out _ (hL.below (by repeat (first | assumption | exact Below.refl _ _ | (with_reducible refine Below.drew ?_) | (with_reducible refine below_drewN' ?_ _) | (with_reducible refine below_al ?_) | ((with_reducible refine below_set ?_ ?_); rotate_left; focus (first | (simp; done) | (simp; omega))))))).mono ?_; rintro e w5 ⟨rfl, hb5⟩
  have hz5 := hb5.size; (try simp at hz5); obtain ⟨hc5, hf5⟩ := bcell hb5; have hB5 := below_step (w := w) hb5 (by repeat (first | assumption | exact Below.refl _ _ | (with_reducible refine Below.drew ?_) | (with_reducible refine below_drewN' ?_ _) | (with_reducible refine below_al ?_) | ((with_reducible refine below_set ?_ ?_); rotate_left; focus (first | (simp; done) | (simp; omega)))))
  have le_w_w5 : w.heap.size ≤ w5.heap.size := by omega
  try have lt_w_w5 : w.heap.size < w5.heap.size := by omega
  have le1_w_w5 : w.heap.size + 1 ≤ w5.heap.size := by omega
  try have lt1_w_w5 : w.heap.size + 1 < w5.heap.size := by omega
  have le_w1_w5 : w1.heap.size ≤ w5.heap.size := by omega
  try have lt_w1_w5 : w1.heap.size < w5.heap.size := by omega
  have le_w2_w5 : w2.heap.size ≤ w5.heap.size := by omega
  try have lt_w2_w5 : w2.heap.size < w5.heap.size := by omega
  have le_w3_w5 : w3.heap.size ≤ w5.heap.size := by omega
  try have lt_w3_w5 : w3.heap.size < w5.heap.size := by omega
  have le_w4_w5 : w4.heap.size ≤ w5.heap.size := by omega
  try have lt_w4_w5 : w4.heap.size < w5.heap.size := by omega
  go_wp2_with fail
  clear hb3 hb4 hb5
  have t0 : ∀ w' : World, w' = w5.drew → (Below w.heap.size w w' ∧ w.heap.size + 1 < w'.heap.size ∧ w1.heap.size < w'.heap.size ∧ w'.cell? ⟨w.heap.size + 1, 0, none⟩ = some (.int .i64 3) ∧ w'.cell? ⟨w.heap.size + 1, 1, none⟩ = some (.int .i64 mo) ∧ w'.cell? ⟨w.heap.size + 1, 2, none⟩ = some (.int .i64 da) ∧ w'.cell? ⟨w.heap.size + 1, 3, none⟩ = some (.int .i64 kk) ∧ w'.cell? ⟨w.heap.size + 1, 4, none⟩ = some (.int .i64 off) ∧ w'.cell? ⟨w.heap.size + 1, 5, none⟩ = some (.int .i64 sh) ∧ w'.cell? ⟨w.heap.size + 1, 6, none⟩ = some (.int .i64 fr) ∧ w'.cell? ⟨w.heap.size + 1, 7, none⟩ = some (.int .i64 to) ∧ w'.cell? ⟨w1.heap.size, 0, none⟩ = some (.int .i64 3) ∧ w'.cell? ⟨w1.heap.size, 1, none⟩ = some (.int .i64 mo') ∧ w'.cell? ⟨w1.heap.size, 2, none⟩ = some (.int .i64 da') ∧ w'.cell? ⟨w1.heap.size, 3, none⟩ = some (.int .i64 kk') ∧ w'.cell? ⟨w1.heap.size, 4, none⟩ = some (.int .i64 off) ∧ w'.cell? ⟨w1.heap.size, 5, none⟩ = some (.int .i64 sh) ∧ w'.cell? ⟨w1.heap.size, 6, none⟩ = some (.int .i64 fr) ∧ w'.cell? ⟨w1.heap.size, 7, none⟩ = some (.int .i64 to)) := by
    intro w' hw'; subst hw'
    refine ⟨?_, ?_, ?_, ?_, ?_, ?_, ?_, ?_, ?_, ?_, ?_, ?_, ?_, ?_, ?_, ?_, ?_, ?_, ?_⟩
    · repeat (first | assumption | exact Below.refl _ _ | (with_reducible refine Below.drew ?_) | (with_reducible refine below_drewN' ?_ _) | (with_reducible refine below_al ?_) | ((with_reducible refine below_set ?_ ?_); rotate_left; focus (first | (simp; done) | (simp; omega))))
    · (simp [go_sem]; try omega)
    · (simp [go_sem]; try omega)
    all_goals (simp [*, go_sem]; done)
  clear c0 c1 c2 c3 c4 c5 c6 c7 d0 d1 d2 d3 d4 d5 d6 d7 hB1 hB2 hB3 hB4 hB5 hz1 hz3 hz4 hz5 hc1 hc3 hc4 hc5 hf1 hf3 hf4 hf5 hm hs hv hv' hB
  clear le_w_w1 le_w_w2 le_w1_w2 le_w_w3 le_w1_w3 le_w2_w3 le_w_w4 le_w1_w4 le_w2_w4 le_w3_w4 le_w_w5 le_w1_w5 le_w2_w5 le_w3_w5 le_w4_w5
  generalize w.heap.size + 1 = p at *
  generalize w1.heap.size = q1 at *
  go_region_held3 (fun w' => Below w.heap.size w w' ∧ p < w'.heap.size ∧ q1 < w'.heap.size ∧ w'.cell? ⟨p, 0, none⟩ = some (.int .i64 3) ∧ w'.cell? ⟨p, 1, none⟩ = some (.int .i64 mo) ∧ w'.cell? ⟨p, 2, none⟩ = some (.int .i64 da) ∧ w'.cell? ⟨p, 3, none⟩ = some (.int .i64 kk) ∧ w'.cell? ⟨p, 4, none⟩ = some (.int .i64 off) ∧ w'.cell? ⟨p, 5, none⟩ = some (.int .i64 sh) ∧ w'.cell? ⟨p, 6, none⟩ = some (.int .i64 fr) ∧ w'.cell? ⟨p, 7, none⟩ = some (.int .i64 to) ∧ w'.cell? ⟨q1, 0, none⟩ = some (.int .i64 3) ∧ w'.cell? ⟨q1, 1, none⟩ = some (.int .i64 mo') ∧ w'.cell? ⟨q1, 2, none⟩ = some (.int .i64 da') ∧ w'.cell? ⟨q1, 3, none⟩ = some (.int .i64 kk') ∧ w'.cell? ⟨q1, 4, none⟩ = some (.int .i64 off) ∧ w'.cell? ⟨q1, 5, none⟩ = some (.int .i64 sh) ∧ w'.cell? ⟨q1, 6, none⟩ = some (.int .i64 fr) ∧ w'.cell? ⟨q1, 7, none⟩ = some (.int .i64 to))
    (first | exact t0 _ rfl | (go_split_ands; obtain ⟨hc', _⟩ := bcell hb; have hz' := hb.size; refine ⟨below_step hb (by assumption), by omega, by omega, ?_, ?_, ?_, ?_, ?_, ?_, ?_, ?_, ?_, ?_, ?_, ?_, ?_, ?_, ?_, ?_⟩; all_goals exact (hc' _ _ (by omega)).trans (by assumption)) | go_keep)
    (first | (go_at_call 22; refine (ruleIs_c _ _ _ _ _ _ _ _ _ (by first | exact hp.out | exact hp'.out) _ (hL.below (by go_split_ands; assumption))).mono ?_; rintro e wn ⟨rfl, hb⟩))
  go_wp2
  go_ret
  exact ⟨rfl, by go_split_ands; assumption⟩
set_option maxHeartbeats 8000000 in
set_option maxRecDepth 100000 in
theorem unused_nokd (kd mo da kk off sh fr to mo' da' kk' off' y n : Int) (k0 : (kd == 0) = false) (k1 : (kd == 1) = false) (k2 : (kd == 2) = false) (k3 : (kd == 3) = false) (hm : Rul.may kd mo da kk off sh fr to = false) (w : World) (hL : Laid w) : Calls Tryd.prog 7 #[.agg #[.int .i64 kd, .int .i64 mo, .int .i64 da, .int .i64 kk, .int .i64 off, .int .i64 sh, .int .i64 fr, .int .i64 to, .int .i64 mo', .int .i64 da', .int .i64 kk', .int .i64 off', .int .i64 y, .int .i64 n]] w fun e w' => e = .returned (.bool true) ∧ Below w.heap.size w w' := by
  have hB : Below w.heap.size w w := Below.refl _ _
  go_enter Tryd.func7, Tryd.ntmps7
  go_wp2_with fail
  refine (shown12_c _ (hL.below (by repeat (first | assumption | exact Below.refl _ _ | (with_reducible refine Below.drew ?_) | (with_reducible refine below_drewN' ?_ _) | (with_reducible refine below_al ?_) | ((with_reducible refine below_set ?_ ?_); rotate_left; focus (first | (simp; done) | (simp; omega))))))).mono ?_; rintro e w1 ⟨rfl, hb1⟩
  have hz1 := hb1.size; (try simp at hz1); obtain ⟨hc1, hf1⟩ := bcell hb1; have hB1 := below_step (w := w) hb1 (by repeat (first | assumption | exact Below.refl _ _ | (with_reducible refine Below.drew ?_) | (with_reducible refine below_drewN' ?_ _) | (with_reducible refine below_al ?_) | ((with_reducible refine below_set ?_ ?_); rotate_left; focus (first | (simp; done) | (simp; omega)))))
  have le_w_w1 : w.heap.size ≤ w1.heap.size := by omega
  try have lt_w_w1 : w.heap.size < w1.heap.size := by omega
  have le1_w_w1 : w.heap.size + 1 ≤ w1.heap.size := by omega
  try have lt1_w_w1 : w.heap.size + 1 < w1.heap.size := by omega
  go_wp2_with fail
  clear hb1
  have t0 : ∀ w' : World, w' = (w1.alloc (Obj.cells #[Value.int IntKind.i64 kd, Value.int IntKind.i64 mo, Value.int IntKind.i64 da, Value.int IntKind.i64 kk, Value.int IntKind.i64 off, Value.int IntKind.i64 sh, Value.int IntKind.i64 fr, Value.int IntKind.i64 to] 23)).drew → (Below w.heap.size w w' ∧ w.heap.size + 1 < w'.heap.size ∧ w1.heap.size < w'.heap.size ∧ w'.cell? ⟨w.heap.size + 1, 0, none⟩ = some (.int .i64 kd) ∧ w'.cell? ⟨w.heap.size + 1, 1, none⟩ = some (.int .i64 mo) ∧ w'.cell? ⟨w.heap.size + 1, 2, none⟩ = some (.int .i64 da) ∧ w'.cell? ⟨w.heap.size + 1, 3, none⟩ = some (.int .i64 kk) ∧ w'.cell? ⟨w.heap.size + 1, 4, none⟩ = some (.int .i64 off) ∧ w'.cell? ⟨w.heap.size + 1, 5, none⟩ = some (.int .i64 sh) ∧ w'.cell? ⟨w.heap.size + 1, 6, none⟩ = some (.int .i64 fr) ∧ w'.cell? ⟨w.heap.size + 1, 7, none⟩ = some (.int .i64 to) ∧ w'.cell? ⟨w1.heap.size, 0, none⟩ = some (.int .i64 kd) ∧ w'.cell? ⟨w1.heap.size, 1, none⟩ = some (.int .i64 mo) ∧ w'.cell? ⟨w1.heap.size, 2, none⟩ = some (.int .i64 da) ∧ w'.cell? ⟨w1.heap.size, 3, none⟩ = some (.int .i64 kk) ∧ w'.cell? ⟨w1.heap.size, 4, none⟩ = some (.int .i64 off) ∧ w'.cell? ⟨w1.heap.size, 5, none⟩ = some (.int .i64 sh) ∧ w'.cell? ⟨w1.heap.size, 6, none⟩ = some (.int .i64 fr) ∧ w'.cell? ⟨w1.heap.size, 7, none⟩ = some (.int .i64 to)) := by
    intro w' hw'; subst hw'
    refine ⟨?_, ?_, ?_, ?_, ?_, ?_, ?_, ?_, ?_, ?_, ?_, ?_, ?_, ?_, ?_, ?_, ?_, ?_, ?_⟩
    · repeat (first | assumption | exact Below.refl _ _ | (with_reducible refine Below.drew ?_) | (with_reducible refine below_drewN' ?_ _) | (with_reducible refine below_al ?_) | ((with_reducible refine below_set ?_ ?_); rotate_left; focus (first | (simp; done) | (simp; omega))))
    · (simp [go_sem]; try omega)
    · (simp [go_sem]; try omega)
    all_goals (simp [*, go_sem]; done)
  go_region_held3 (fun w' => Below w.heap.size w w' ∧ w.heap.size + 1 < w'.heap.size ∧ w1.heap.size < w'.heap.size ∧ w'.cell? ⟨w.heap.size + 1, 0, none⟩ = some (.int .i64 kd) ∧ w'.cell? ⟨w.heap.size + 1, 1, none⟩ = some (.int .i64 mo) ∧ w'.cell? ⟨w.heap.size + 1, 2, none⟩ = some (.int .i64 da) ∧ w'.cell? ⟨w.heap.size + 1, 3, none⟩ = some (.int .i64 kk) ∧ w'.cell? ⟨w.heap.size + 1, 4, none⟩ = some (.int .i64 off) ∧ w'.cell? ⟨w.heap.size + 1, 5, none⟩ = some (.int .i64 sh) ∧ w'.cell? ⟨w.heap.size + 1, 6, none⟩ = some (.int .i64 fr) ∧ w'.cell? ⟨w.heap.size + 1, 7, none⟩ = some (.int .i64 to) ∧ w'.cell? ⟨w1.heap.size, 0, none⟩ = some (.int .i64 kd) ∧ w'.cell? ⟨w1.heap.size, 1, none⟩ = some (.int .i64 mo) ∧ w'.cell? ⟨w1.heap.size, 2, none⟩ = some (.int .i64 da) ∧ w'.cell? ⟨w1.heap.size, 3, none⟩ = some (.int .i64 kk) ∧ w'.cell? ⟨w1.heap.size, 4, none⟩ = some (.int .i64 off) ∧ w'.cell? ⟨w1.heap.size, 5, none⟩ = some (.int .i64 sh) ∧ w'.cell? ⟨w1.heap.size, 6, none⟩ = some (.int .i64 fr) ∧ w'.cell? ⟨w1.heap.size, 7, none⟩ = some (.int .i64 to))
    (first | exact t0 _ rfl | (go_split_ands; obtain ⟨hc', _⟩ := bcell hb; have hz' := hb.size; refine ⟨below_step hb (by assumption), by omega, by omega, ?_, ?_, ?_, ?_, ?_, ?_, ?_, ?_, ?_, ?_, ?_, ?_, ?_, ?_, ?_, ?_⟩; all_goals exact (hc' _ _ (by omega)).trans (by assumption)) | go_keep)
    (first | (go_at_call 17; refine (ruleMay_c _ _ _ _ _ _ _ _ _ (hL.below (by go_split_ands; assumption))).mono ?_; rintro e wn ⟨rfl, hb⟩))
  clear t0
  rename World => w2
  rename (Below w.heap.size w w2 ∧ _) => hS
  obtain ⟨hB2, lt1_w_w2, lt_w1_w2, c0, c1, c2, c3, c4, c5, c6, c7, d0, d1, d2, d3, d4, d5, d6, d7⟩ := hS
  have le_w1_w2 : w1.heap.size ≤ w2.heap.size := by omega
  have le_w_w2 : w.heap.size ≤ w2.heap.size := by omega
  have lt_w_w2 : w.heap.size < w2.heap.size := by omega
  go_wp2_with fail
  refine (rruleMay_c _ _ _ _ _ _ _ _ _).mono ?_; rintro e w3 ⟨rfl, hb3⟩
  have hz3 := hb3.size; (try simp at hz3); obtain ⟨hc3, hf3⟩ := bcell hb3; have hB3 := below_step (w := w) hb3 (by repeat (first | assumption | exact Below.refl _ _ | (with_reducible refine Below.drew ?_) | (with_reducible refine below_drewN' ?_ _) | (with_reducible refine below_al ?_) | ((with_reducible refine below_set ?_ ?_); rotate_left; focus (first | (simp; done) | (simp; omega)))))
  have le_w_w3 : w.heap.size ≤ w3.heap.size := by omega
  try have lt_w_w3 : w.heap.size < w3.heap.size := by omega
  have le1_w_w3 : w.heap.size + 1 ≤ w3.heap.size := by omega
  try have lt1_w_w3 : w.heap.size + 1 < w3.heap.size := by omega
  have le_w1_w3 : w1.heap.size ≤ w3.heap.size := by omega
  try have lt_w1_w3 : w1.heap.size < w3.heap.size := by omega
  have le_w2_w3 : w2.heap.size ≤ w3.heap.size := by omega
  try have lt_w2_w3 : w2.heap.size < w3.heap.size := by omega
  go_wp2_with fail
  go_ret
  exact ⟨rfl, by go_split_ands; repeat (first | assumption | exact Below.refl _ _ | (with_reducible refine Below.drew ?_) | (with_reducible refine below_drewN' ?_ _) | (with_reducible refine below_al ?_) | ((with_reducible refine below_set ?_ ?_); rotate_left; focus (first | (simp; done) | (simp; omega))))⟩
theorem baK0 (mo da kk off y : Int) : Rul.baK 0 mo da kk off y = numV y mo da := rfl
theorem baK1 (mo da kk off y : Int) : Rul.baK 1 mo da kk off y = numV y mo (Rul.nthD y mo da kk) := rfl
theorem baK2 (mo da kk off y : Int) : Rul.baK 2 mo da kk off y = Rul.lastD y mo da := rfl
theorem baK3 (mo da kk off y : Int) : Rul.baK 3 mo da kk off y = Rul.dayV (easV y + off) := rfl
theorem ruleUnused_walk (kd mo da kk off sh fr to mo' da' kk' off' y n : Int) (w : World) (hL : Laid w) : Calls Tryd.prog 7 #[.agg #[.int .i64 kd, .int .i64 mo, .int .i64 da, .int .i64 kk, .int .i64 off, .int .i64 sh, .int .i64 fr, .int .i64 to, .int .i64 mo', .int .i64 da', .int .i64 kk', .int .i64 off', .int .i64 y, .int .i64 n]] w fun e w' => e = .returned (.bool true) ∧ Below w.heap.size w w' := by
  by_cases k0 : kd = 0
  · subst k0
    have em : Rul.may 0 mo da kk' off' sh fr to = Rul.may 0 mo da kk off sh fr to := by (refine Bool.eq_iff_iff.2 ?_; rw [Rul.may_iff, Rul.may_iff]; unfold Rul.mayP; omega)
    have ei : ∀ z, Rul.ins 0 mo da kk' off' sh fr to z = Rul.ins 0 mo da kk off sh fr to z := fun z => by unfold Rul.ins; rw [show Rul.ba 0 mo da kk' off' fr to z = Rul.ba 0 mo da kk off fr to z from rfl]
    have eb : Rul.isB 0 mo da kk' off' sh fr to n = Rul.isB 0 mo da kk off sh fr to n := by simp only [Rul.isB, ei]
    cases hm : Rul.may 0 mo da kk off sh fr to
    · exact unused_no0 0 mo da kk off sh fr to mo' da' kk' off' y n hm (em.trans hm) w hL
    · exact unused_yes0 0 mo da kk off sh fr to mo' da' kk' off' y n _ _ hm (em.trans hm) (Rul.may_iff.1 hm) (Rul.may_iff.1 (em.trans hm)) rfl (ei y) rfl eb w hL
  by_cases k1 : kd = 1
  · subst k1
    have em : Rul.may 1 mo da kk off' sh fr to = Rul.may 1 mo da kk off sh fr to := by (refine Bool.eq_iff_iff.2 ?_; rw [Rul.may_iff, Rul.may_iff]; unfold Rul.mayP; omega)
    have ei : ∀ z, Rul.ins 1 mo da kk off' sh fr to z = Rul.ins 1 mo da kk off sh fr to z := fun z => by unfold Rul.ins; rw [show Rul.ba 1 mo da kk off' fr to z = Rul.ba 1 mo da kk off fr to z from rfl]
    have eb : Rul.isB 1 mo da kk off' sh fr to n = Rul.isB 1 mo da kk off sh fr to n := by simp only [Rul.isB, ei]
    cases hm : Rul.may 1 mo da kk off sh fr to
    · exact unused_no1 1 mo da kk off sh fr to mo' da' kk' off' y n hm (em.trans hm) w hL
    · exact unused_yes1 1 mo da kk off sh fr to mo' da' kk' off' y n _ _ hm (em.trans hm) (Rul.may_iff.1 hm) (Rul.may_iff.1 (em.trans hm)) rfl (ei y) rfl eb w hL
  by_cases k2 : kd = 2
  · subst k2
    have em : Rul.may 2 mo da kk' off' sh fr to = Rul.may 2 mo da kk off sh fr to := by (refine Bool.eq_iff_iff.2 ?_; rw [Rul.may_iff, Rul.may_iff]; unfold Rul.mayP; omega)
    have ei : ∀ z, Rul.ins 2 mo da kk' off' sh fr to z = Rul.ins 2 mo da kk off sh fr to z := fun z => by unfold Rul.ins; rw [show Rul.ba 2 mo da kk' off' fr to z = Rul.ba 2 mo da kk off fr to z from rfl]
    have eb : Rul.isB 2 mo da kk' off' sh fr to n = Rul.isB 2 mo da kk off sh fr to n := by simp only [Rul.isB, ei]
    cases hm : Rul.may 2 mo da kk off sh fr to
    · exact unused_no2 2 mo da kk off sh fr to mo' da' kk' off' y n hm (em.trans hm) w hL
    · exact unused_yes2 2 mo da kk off sh fr to mo' da' kk' off' y n _ _ hm (em.trans hm) (Rul.may_iff.1 hm) (Rul.may_iff.1 (em.trans hm)) rfl (ei y) rfl eb w hL
  by_cases k3 : kd = 3
  · subst k3
    have em : Rul.may 3 mo' da' kk' off sh fr to = Rul.may 3 mo da kk off sh fr to := by (refine Bool.eq_iff_iff.2 ?_; rw [Rul.may_iff, Rul.may_iff]; unfold Rul.mayP; omega)
    have ei : ∀ z, Rul.ins 3 mo' da' kk' off sh fr to z = Rul.ins 3 mo da kk off sh fr to z := fun z => by unfold Rul.ins; rw [show Rul.ba 3 mo' da' kk' off fr to z = Rul.ba 3 mo da kk off fr to z from rfl]
    have eb : Rul.isB 3 mo' da' kk' off sh fr to n = Rul.isB 3 mo da kk off sh fr to n := by simp only [Rul.isB, ei]
    cases hm : Rul.may 3 mo da kk off sh fr to
    · exact unused_no3 3 mo da kk off sh fr to mo' da' kk' off' y n hm (em.trans hm) w hL
    · exact unused_yes3 3 mo da kk off sh fr to mo' da' kk' off' y n _ _ hm (em.trans hm) (Rul.may_iff.1 hm) (Rul.may_iff.1 (em.trans hm)) rfl (ei y) rfl eb w hL
  exact unused_nokd kd mo da kk off sh fr to mo' da' kk' off' y n (beq_eq_false_iff_ne.2 k0) (beq_eq_false_iff_ne.2 k1) (beq_eq_false_iff_ne.2 k2) (beq_eq_false_iff_ne.2 k3) (Rul.may_no (by unfold Rul.mayP; omega)) w hL
end Go.Proofs.YtjcjchapfiokeaaDoor
