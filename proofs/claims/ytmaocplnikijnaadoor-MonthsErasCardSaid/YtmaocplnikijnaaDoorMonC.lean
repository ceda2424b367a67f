/- The contracts of the layer of months, third part: moves. Conditions: the table of months' lengths lies as the program's text lays it. -/
import Derived.Test.YtmaocplnikijnaaDoorMonB
namespace Go.Proofs.YtmaocplnikijnaaDoor
open Go.RowKit
set_option linter.unusedVariables false

set_option maxHeartbeats 2000000 in
theorem move1_no1 (y m d k M : Int) (eom : Bool) (bk be : Nat) (hM : 12 * y + m - 1 + k = M) (y1 : 1 ≤ y) (y2 : y ≤ 9999) (m1 : 1 ≤ m) (m2 : m ≤ 12) (d1 : 1 ≤ d) (d2 : d ≤ 31) (h : Hid (k < -119988 ∨ 119988 < k)) (w : World) (hL : Laid w) (hk : w.cell? ⟨bk, 0, none⟩ = some (.int .i64 k)) (he : w.cell? ⟨be, 0, none⟩ = some (.bool eom)) : Calls Tryd.prog 44 #[.agg #[.int .i64 y, .int .i64 m, .int .i64 d], .pointer (some ⟨bk, 0, none⟩), .pointer (some ⟨be, 0, none⟩)] w fun e w' => e = .returned (.tuple #[.int .i64 0, .int .i64 3]) ∧ Below w.heap.size w w' := by
  have hbk : bk < w.heap.size := World.block_lt_of_cell? w _ hk
  have hbe : be < w.heap.size := World.block_lt_of_cell? w _ he
  have hbk' : bk ≤ w.heap.size := by omega
  have hbe' : be ≤ w.heap.size := by omega
  have hB : Below w.heap.size w w := Below.refl _ _
  clear hM
  go_enter Tryd.func44, Tryd.ntmps44
  go_wp2_with fail
  refine (mon_no1 _ _ _ _ _ h.out).mono ?_; rintro e w1 ⟨rfl, hb1⟩
  have hz1 := hb1.size; (try simp at hz1); obtain ⟨hc1, hf1⟩ := bcell hb1; have hB1 := below_step (w := w) hb1 (by repeat (first | assumption | exact Below.refl _ _ | (with_reducible refine Below.drew ?_) | (with_reducible refine below_drewN' ?_ _) | (with_reducible refine below_al ?_) | ((with_reducible refine below_set ?_ ?_); rotate_left; focus (first | (simp; done) | (simp; omega)))))
  have le_w_w1 : w.heap.size ≤ w1.heap.size := by omega
  try have lt_w_w1 : w.heap.size < w1.heap.size := by omega
  have lb_bk_w1 : bk < w1.heap.size := by omega
  have lc_bk_w1 : bk ≤ w1.heap.size := by omega
  have lb_be_w1 : be < w1.heap.size := by omega
  have lc_be_w1 : be ≤ w1.heap.size := by omega
  go_wp2_with fail
  go_ret2
  exact ⟨rfl, by repeat (first | assumption | exact Below.refl _ _ | (with_reducible refine Below.drew ?_) | (with_reducible refine below_drewN' ?_ _) | (with_reducible refine below_al ?_) | ((with_reducible refine below_set ?_ ?_); rotate_left; focus (first | (simp; done) | (simp; omega))))⟩
set_option maxHeartbeats 2000000 in
theorem move1_no2 (y m d k M : Int) (eom : Bool) (bk be : Nat) (hM : 12 * y + m - 1 + k = M) (y1 : 1 ≤ y) (y2 : y ≤ 9999) (m1 : 1 ≤ m) (m2 : m ≤ 12) (d1 : 1 ≤ d) (d2 : d ≤ 31) (k1 : -119988 ≤ k) (k2 : k ≤ 119988) (h : Hid (M < 12 ∨ 120000 ≤ M)) (w : World) (hL : Laid w) (hk : w.cell? ⟨bk, 0, none⟩ = some (.int .i64 k)) (he : w.cell? ⟨be, 0, none⟩ = some (.bool eom)) : Calls Tryd.prog 44 #[.agg #[.int .i64 y, .int .i64 m, .int .i64 d], .pointer (some ⟨bk, 0, none⟩), .pointer (some ⟨be, 0, none⟩)] w fun e w' => e = .returned (.tuple #[.int .i64 0, .int .i64 3]) ∧ Below w.heap.size w w' := by
  have hbk : bk < w.heap.size := World.block_lt_of_cell? w _ hk
  have hbe : be < w.heap.size := World.block_lt_of_cell? w _ he
  have hbk' : bk ≤ w.heap.size := by omega
  have hbe' : be ≤ w.heap.size := by omega
  have hB : Below w.heap.size w w := Below.refl _ _
  have h' : Hid (12 * y + m - 1 + k < 12 ∨ 120000 ≤ 12 * y + m - 1 + k) := by rw [hM]; exact h.out
  clear hM
  go_enter Tryd.func44, Tryd.ntmps44
  go_wp2_with fail
  refine (mon_no2 _ _ _ _ _ k1 k2 y1 y2 m1 m2 h'.out).mono ?_; rintro e w1 ⟨rfl, hb1⟩
  have hz1 := hb1.size; (try simp at hz1); obtain ⟨hc1, hf1⟩ := bcell hb1; have hB1 := below_step (w := w) hb1 (by repeat (first | assumption | exact Below.refl _ _ | (with_reducible refine Below.drew ?_) | (with_reducible refine below_drewN' ?_ _) | (with_reducible refine below_al ?_) | ((with_reducible refine below_set ?_ ?_); rotate_left; focus (first | (simp; done) | (simp; omega)))))
  have le_w_w1 : w.heap.size ≤ w1.heap.size := by omega
  try have lt_w_w1 : w.heap.size < w1.heap.size := by omega
  have lb_bk_w1 : bk < w1.heap.size := by omega
  have lc_bk_w1 : bk ≤ w1.heap.size := by omega
  have lb_be_w1 : be < w1.heap.size := by omega
  have lc_be_w1 : be ≤ w1.heap.size := by omega
  go_wp2_with fail
  go_ret2
  exact ⟨rfl, by repeat (first | assumption | exact Below.refl _ _ | (with_reducible refine Below.drew ?_) | (with_reducible refine below_drewN' ?_ _) | (with_reducible refine below_al ?_) | ((with_reducible refine below_set ?_ ?_); rotate_left; focus (first | (simp; done) | (simp; omega))))⟩
set_option maxHeartbeats 2000000 in
theorem move1_f (y m d k M : Int) (bk be : Nat) (hM : 12 * y + m - 1 + k = M) (y1 : 1 ≤ y) (y2 : y ≤ 9999) (m1 : 1 ≤ m) (m2 : m ≤ 12) (d1 : 1 ≤ d) (d2 : d ≤ 31) (k1 : -119988 ≤ k) (k2 : k ≤ 119988) (M1 : 12 ≤ M) (M2 : M ≤ 119999) (Y N q : Int) (hY : M / 12 = Y) (hN : M % 12 + 1 = N) (he2 : min d (Cal.len Y N) = q) (v : Cal.mayB Y N q = true)  (w : World) (hL : Laid w) (hk : w.cell? ⟨bk, 0, none⟩ = some (.int .i64 k)) (he : w.cell? ⟨be, 0, none⟩ = some (.bool false)) : Calls Tryd.prog 44 #[.agg #[.int .i64 y, .int .i64 m, .int .i64 d], .pointer (some ⟨bk, 0, none⟩), .pointer (some ⟨be, 0, none⟩)] w fun e w' => e = .returned (.tuple #[.int .i64 (Cal.num Y N q), .int .i64 0]) ∧ Below w.heap.size w w' := by
  have hbk : bk < w.heap.size := World.block_lt_of_cell? w _ hk
  have hbe : be < w.heap.size := World.block_lt_of_cell? w _ he
  have hbk' : bk ≤ w.heap.size := by omega
  have hbe' : be ≤ w.heap.size := by omega
  have hB : Below w.heap.size w w := Below.refl _ _
  have H2 := Lib.hid he2; clear he2
  have HM := Lib.hid hM; clear hM
  go_enter Tryd.func44, Tryd.ntmps44
  go_wp2_with fail
  refine (mon_yes _ _ _ _ _ _ (hL.below (by repeat (first | assumption | exact Below.refl _ _ | (with_reducible refine Below.drew ?_) | (with_reducible refine below_drewN' ?_ _) | (with_reducible refine below_al ?_) | ((with_reducible refine below_set ?_ ?_); rotate_left; focus (first | (simp; done) | (simp; omega)))))) HM.out k1 k2 y1 y2 m1 m2 M1 M2).mono ?_; rintro e w1 ⟨rfl, hb1⟩
  have hz1 := hb1.size; (try simp at hz1); obtain ⟨hc1, hf1⟩ := bcell hb1; have hB1 := below_step (w := w) hb1 (by repeat (first | assumption | exact Below.refl _ _ | (with_reducible refine Below.drew ?_) | (with_reducible refine below_drewN' ?_ _) | (with_reducible refine below_al ?_) | ((with_reducible refine below_set ?_ ?_); rotate_left; focus (first | (simp; done) | (simp; omega)))))
  have le_w_w1 : w.heap.size ≤ w1.heap.size := by omega
  try have lt_w_w1 : w.heap.size < w1.heap.size := by omega
  have lb_bk_w1 : bk < w1.heap.size := by omega
  have lc_bk_w1 : bk ≤ w1.heap.size := by omega
  have lb_be_w1 : be < w1.heap.size := by omega
  have lc_be_w1 : be ≤ w1.heap.size := by omega
  rw [hY, hN, H2.out]
  go_wp2_with fail
  go_quiet (fail)
  go_wp2_with fail
  refine (number_yes _ _ _ _ (hL.below (by repeat (first | assumption | exact Below.refl _ _ | (with_reducible refine Below.drew ?_) | (with_reducible refine below_drewN' ?_ _) | (with_reducible refine below_al ?_) | ((with_reducible refine below_set ?_ ?_); rotate_left; focus (first | (simp; done) | (simp; omega)))))) (by assumption)).mono ?_; rintro e w2 ⟨rfl, hb2⟩
  have hz2 := hb2.size; (try simp at hz2); obtain ⟨hc2, hf2⟩ := bcell hb2; have hB2 := below_step (w := w) hb2 (by repeat (first | assumption | exact Below.refl _ _ | (with_reducible refine Below.drew ?_) | (with_reducible refine below_drewN' ?_ _) | (with_reducible refine below_al ?_) | ((with_reducible refine below_set ?_ ?_); rotate_left; focus (first | (simp; done) | (simp; omega)))))
  have le_w_w2 : w.heap.size ≤ w2.heap.size := by omega
  try have lt_w_w2 : w.heap.size < w2.heap.size := by omega
  have le_w1_w2 : w1.heap.size ≤ w2.heap.size := by omega
  try have lt_w1_w2 : w1.heap.size < w2.heap.size := by omega
  have lb_bk_w2 : bk < w2.heap.size := by omega
  have lc_bk_w2 : bk ≤ w2.heap.size := by omega
  have lb_be_w2 : be < w2.heap.size := by omega
  have lc_be_w2 : be ≤ w2.heap.size := by omega
  go_wp2_with fail
  go_ret2
  exact ⟨rfl, by repeat (first | assumption | exact Below.refl _ _ | (with_reducible refine Below.drew ?_) | (with_reducible refine below_drewN' ?_ _) | (with_reducible refine below_al ?_) | ((with_reducible refine below_set ?_ ?_); rotate_left; focus (first | (simp; done) | (simp; omega))))⟩
set_option maxHeartbeats 2000000 in
theorem move1_t (y m d k M : Int) (bk be : Nat) (hM : 12 * y + m - 1 + k = M) (y1 : 1 ≤ y) (y2 : y ≤ 9999) (m1 : 1 ≤ m) (m2 : m ≤ 12) (d1 : 1 ≤ d) (d2 : d ≤ 31) (k1 : -119988 ≤ k) (k2 : k ≤ 119988) (M1 : 12 ≤ M) (M2 : M ≤ 119999) (Y N q : Int) (hY : M / 12 = Y) (hN : M % 12 + 1 = N) (he2 : min d (Cal.len Y N) = q) (v : Cal.mayB Y N q = true) (hd : (d == Cal.len y m) = false) (w : World) (hL : Laid w) (hk : w.cell? ⟨bk, 0, none⟩ = some (.int .i64 k)) (he : w.cell? ⟨be, 0, none⟩ = some (.bool true)) : Calls Tryd.prog 44 #[.agg #[.int .i64 y, .int .i64 m, .int .i64 d], .pointer (some ⟨bk, 0, none⟩), .pointer (some ⟨be, 0, none⟩)] w fun e w' => e = .returned (.tuple #[.int .i64 (Cal.num Y N q), .int .i64 0]) ∧ Below w.heap.size w w' := by
  have hbk : bk < w.heap.size := World.block_lt_of_cell? w _ hk
  have hbe : be < w.heap.size := World.block_lt_of_cell? w _ he
  have hbk' : bk ≤ w.heap.size := by omega
  have hbe' : be ≤ w.heap.size := by omega
  have hB : Below w.heap.size w w := Below.refl _ _
  have H2 := Lib.hid he2; clear he2
  have HM := Lib.hid hM; clear hM
  go_enter Tryd.func44, Tryd.ntmps44
  go_wp2_with fail
  refine (mon_yes _ _ _ _ _ _ (hL.below (by repeat (first | assumption | exact Below.refl _ _ | (with_reducible refine Below.drew ?_) | (with_reducible refine below_drewN' ?_ _) | (with_reducible refine below_al ?_) | ((with_reducible refine below_set ?_ ?_); rotate_left; focus (first | (simp; done) | (simp; omega)))))) HM.out k1 k2 y1 y2 m1 m2 M1 M2).mono ?_; rintro e w1 ⟨rfl, hb1⟩
  have hz1 := hb1.size; (try simp at hz1); obtain ⟨hc1, hf1⟩ := bcell hb1; have hB1 := below_step (w := w) hb1 (by repeat (first | assumption | exact Below.refl _ _ | (with_reducible refine Below.drew ?_) | (with_reducible refine below_drewN' ?_ _) | (with_reducible refine below_al ?_) | ((with_reducible refine below_set ?_ ?_); rotate_left; focus (first | (simp; done) | (simp; omega)))))
  have le_w_w1 : w.heap.size ≤ w1.heap.size := by omega
  try have lt_w_w1 : w.heap.size < w1.heap.size := by omega
  have lb_bk_w1 : bk < w1.heap.size := by omega
  have lc_bk_w1 : bk ≤ w1.heap.size := by omega
  have lb_be_w1 : be < w1.heap.size := by omega
  have lc_be_w1 : be ≤ w1.heap.size := by omega
  rw [hY, hN, H2.out]
  go_wp2_with fail
  have t0 : ∀ w' : World, w' = (w1.alloc (Obj.cells #[Value.int IntKind.i64 Y, Value.int IntKind.i64 N, Value.int IntKind.i64 q] 29)).drew → (Below w.heap.size w w' ∧ w1.heap.size < w'.heap.size ∧ w'.cell? ⟨be, 0, none⟩ = some (.bool true) ∧ w'.cell? ⟨w.heap.size, 0, none⟩ = some (.int .i64 y) ∧ w'.cell? ⟨w.heap.size, 1, none⟩ = some (.int .i64 m) ∧ w'.cell? ⟨w.heap.size, 2, none⟩ = some (.int .i64 d) ∧
      w'.cell? ⟨w1.heap.size, 0, none⟩ = some (.int .i64 Y) ∧ w'.cell? ⟨w1.heap.size, 1, none⟩ = some (.int .i64 N) ∧ w'.cell? ⟨w1.heap.size, 2, none⟩ = some (.int .i64 q) ∧ w'.frozen? ⟨w1.heap.size, 0, none⟩ = false ∧ w'.frozen? ⟨w1.heap.size, 1, none⟩ = false ∧ w'.frozen? ⟨w1.heap.size, 2, none⟩ = false) := by
    intro w' hw'; subst hw'; clear hb1
    refine ⟨?_, ?_, ?_, ?_, ?_, ?_, ?_, ?_, ?_, ?_, ?_, ?_⟩
    · repeat (first | assumption | exact Below.refl _ _ | (with_reducible refine Below.drew ?_) | (with_reducible refine below_drewN' ?_ _) | (with_reducible refine below_al ?_) | ((with_reducible refine below_set ?_ ?_); rotate_left; focus (first | (simp; done) | (simp; omega))))
    · (simp [go_sem]; done)
    all_goals (simp [*, go_sem]; done)
  go_region_held3 (fun w' => Below w.heap.size w w' ∧ w1.heap.size < w'.heap.size ∧ w'.cell? ⟨be, 0, none⟩ = some (.bool true) ∧ w'.cell? ⟨w.heap.size, 0, none⟩ = some (.int .i64 y) ∧ w'.cell? ⟨w.heap.size, 1, none⟩ = some (.int .i64 m) ∧ w'.cell? ⟨w.heap.size, 2, none⟩ = some (.int .i64 d) ∧
      w'.cell? ⟨w1.heap.size, 0, none⟩ = some (.int .i64 Y) ∧ w'.cell? ⟨w1.heap.size, 1, none⟩ = some (.int .i64 N) ∧ w'.cell? ⟨w1.heap.size, 2, none⟩ = some (.int .i64 q) ∧ w'.frozen? ⟨w1.heap.size, 0, none⟩ = false ∧ w'.frozen? ⟨w1.heap.size, 1, none⟩ = false ∧ w'.frozen? ⟨w1.heap.size, 2, none⟩ = false)
    (first | exact t0 _ rfl | (go_split_ands; obtain ⟨hc', hf'⟩ := bcell hb; have hz' := hb.size; refine ⟨below_step hb (by assumption), by omega, ?_, ?_, ?_, ?_, ?_, ?_, ?_, ?_, ?_, ?_⟩; all_goals first | exact (hc' _ _ (by omega)).trans (by assumption) | exact (hf' _ _ (by omega)).trans (by assumption)) | go_keep)
    (first | (go_at_call 40; refine (mend_c _ _ _ _ (hL.below (by go_split_ands; assumption))).mono ?_; rintro e wn ⟨rfl, hb⟩))
  clear t0
  rename World => w2
  go_split_ands
  have hB2 : Below w.heap.size w w2 := by assumption
  have lt_w1_w2 : w1.heap.size < w2.heap.size := by assumption
  go_wp2_with fail
  refine (number_yes _ _ _ _ (hL.below (by repeat (first | assumption | exact Below.refl _ _ | (with_reducible refine Below.drew ?_) | (with_reducible refine below_drewN' ?_ _) | (with_reducible refine below_al ?_) | ((with_reducible refine below_set ?_ ?_); rotate_left; focus (first | (simp; done) | (simp; omega)))))) (by assumption)).mono ?_; rintro e w3 ⟨rfl, hb3⟩
  have hz3 := hb3.size; (try simp at hz3); obtain ⟨hc3, hf3⟩ := bcell hb3; have hB3 := below_step (w := w) hb3 (by repeat (first | assumption | exact Below.refl _ _ | (with_reducible refine Below.drew ?_) | (with_reducible refine below_drewN' ?_ _) | (with_reducible refine below_al ?_) | ((with_reducible refine below_set ?_ ?_); rotate_left; focus (first | (simp; done) | (simp; omega)))))
  have le_w_w3 : w.heap.size ≤ w3.heap.size := by omega
  try have lt_w_w3 : w.heap.size < w3.heap.size := by omega
  have le_w1_w3 : w1.heap.size ≤ w3.heap.size := by omega
  try have lt_w1_w3 : w1.heap.size < w3.heap.size := by omega
  have le_w2_w3 : w2.heap.size ≤ w3.heap.size := by omega
  try have lt_w2_w3 : w2.heap.size < w3.heap.size := by omega
  go_wp2_with fail
  go_ret2
  exact ⟨rfl, by repeat (first | assumption | exact Below.refl _ _ | (with_reducible refine Below.drew ?_) | (with_reducible refine below_drewN' ?_ _) | (with_reducible refine below_al ?_) | ((with_reducible refine below_set ?_ ?_); rotate_left; focus (first | (simp; done) | (simp; omega))))⟩
set_option maxHeartbeats 2000000 in
theorem move1_e (y m d k M : Int) (bk be : Nat) (hM : 12 * y + m - 1 + k = M) (y1 : 1 ≤ y) (y2 : y ≤ 9999) (m1 : 1 ≤ m) (m2 : m ≤ 12) (d1 : 1 ≤ d) (d2 : d ≤ 31) (k1 : -119988 ≤ k) (k2 : k ≤ 119988) (M1 : 12 ≤ M) (M2 : M ≤ 119999) (Y N q : Int) (hY : M / 12 = Y) (hN : M % 12 + 1 = N) (he2 : min d (Cal.len Y N) = q) (v : Cal.mayB Y N (Cal.len Y N) = true) (hd : (d == Cal.len y m) = true) (w : World) (hL : Laid w) (hk : w.cell? ⟨bk, 0, none⟩ = some (.int .i64 k)) (he : w.cell? ⟨be, 0, none⟩ = some (.bool true)) : Calls Tryd.prog 44 #[.agg #[.int .i64 y, .int .i64 m, .int .i64 d], .pointer (some ⟨bk, 0, none⟩), .pointer (some ⟨be, 0, none⟩)] w fun e w' => e = .returned (.tuple #[.int .i64 (Cal.num Y N (Cal.len Y N)), .int .i64 0]) ∧ Below w.heap.size w w' := by
  have hbk : bk < w.heap.size := World.block_lt_of_cell? w _ hk
  have hbe : be < w.heap.size := World.block_lt_of_cell? w _ he
  have hbk' : bk ≤ w.heap.size := by omega
  have hbe' : be ≤ w.heap.size := by omega
  have hB : Below w.heap.size w w := Below.refl _ _
  have H2 := Lib.hid he2; clear he2
  have HM := Lib.hid hM; clear hM
  go_enter Tryd.func44, Tryd.ntmps44
  go_wp2_with fail
  refine (mon_yes _ _ _ _ _ _ (hL.below (by repeat (first | assumption | exact Below.refl _ _ | (with_reducible refine Below.drew ?_) | (with_reducible refine below_drewN' ?_ _) | (with_reducible refine below_al ?_) | ((with_reducible refine below_set ?_ ?_); rotate_left; focus (first | (simp; done) | (simp; omega)))))) HM.out k1 k2 y1 y2 m1 m2 M1 M2).mono ?_; rintro e w1 ⟨rfl, hb1⟩
  have hz1 := hb1.size; (try simp at hz1); obtain ⟨hc1, hf1⟩ := bcell hb1; have hB1 := below_step (w := w) hb1 (by repeat (first | assumption | exact Below.refl _ _ | (with_reducible refine Below.drew ?_) | (with_reducible refine below_drewN' ?_ _) | (with_reducible refine below_al ?_) | ((with_reducible refine below_set ?_ ?_); rotate_left; focus (first | (simp; done) | (simp; omega)))))
  have le_w_w1 : w.heap.size ≤ w1.heap.size := by omega
  try have lt_w_w1 : w.heap.size < w1.heap.size := by omega
  have lb_bk_w1 : bk < w1.heap.size := by omega
  have lc_bk_w1 : bk ≤ w1.heap.size := by omega
  have lb_be_w1 : be < w1.heap.size := by omega
  have lc_be_w1 : be ≤ w1.heap.size := by omega
  rw [hY, hN, H2.out]
  go_wp2_with fail
  have t0 : ∀ w' : World, w' = (w1.alloc (Obj.cells #[Value.int IntKind.i64 Y, Value.int IntKind.i64 N, Value.int IntKind.i64 q] 29)).drew → (Below w.heap.size w w' ∧ w1.heap.size < w'.heap.size ∧ w'.cell? ⟨be, 0, none⟩ = some (.bool true) ∧ w'.cell? ⟨w.heap.size, 0, none⟩ = some (.int .i64 y) ∧ w'.cell? ⟨w.heap.size, 1, none⟩ = some (.int .i64 m) ∧ w'.cell? ⟨w.heap.size, 2, none⟩ = some (.int .i64 d) ∧
      w'.cell? ⟨w1.heap.size, 0, none⟩ = some (.int .i64 Y) ∧ w'.cell? ⟨w1.heap.size, 1, none⟩ = some (.int .i64 N) ∧ w'.cell? ⟨w1.heap.size, 2, none⟩ = some (.int .i64 q) ∧ w'.frozen? ⟨w1.heap.size, 0, none⟩ = false ∧ w'.frozen? ⟨w1.heap.size, 1, none⟩ = false ∧ w'.frozen? ⟨w1.heap.size, 2, none⟩ = false) := by
    intro w' hw'; subst hw'; clear hb1
    refine ⟨?_, ?_, ?_, ?_, ?_, ?_, ?_, ?_, ?_, ?_, ?_, ?_⟩
    · repeat (first | assumption | exact Below.refl _ _ | (with_reducible refine Below.drew ?_) | (with_reducible refine below_drewN' ?_ _) | (with_reducible refine below_al ?_) | ((with_reducible refine below_set ?_ ?_); rotate_left; focus (first | (simp; done) | (simp; omega))))
    · (simp [go_sem]; done)
    all_goals (simp [*, go_sem]; done)
  go_region_held3 (fun w' => Below w.heap.size w w' ∧ w1.heap.size < w'.heap.size ∧ w'.cell? ⟨be, 0, none⟩ = some (.bool true) ∧ w'.cell? ⟨w.heap.size, 0, none⟩ = some (.int .i64 y) ∧ w'.cell? ⟨w.heap.size, 1, none⟩ = some (.int .i64 m) ∧ w'.cell? ⟨w.heap.size, 2, none⟩ = some (.int .i64 d) ∧
      w'.cell? ⟨w1.heap.size, 0, none⟩ = some (.int .i64 Y) ∧ w'.cell? ⟨w1.heap.size, 1, none⟩ = some (.int .i64 N) ∧ w'.cell? ⟨w1.heap.size, 2, none⟩ = some (.int .i64 q) ∧ w'.frozen? ⟨w1.heap.size, 0, none⟩ = false ∧ w'.frozen? ⟨w1.heap.size, 1, none⟩ = false ∧ w'.frozen? ⟨w1.heap.size, 2, none⟩ = false)
    (first | exact t0 _ rfl | (go_split_ands; obtain ⟨hc', hf'⟩ := bcell hb; have hz' := hb.size; refine ⟨below_step hb (by assumption), by omega, ?_, ?_, ?_, ?_, ?_, ?_, ?_, ?_, ?_, ?_⟩; all_goals first | exact (hc' _ _ (by omega)).trans (by assumption) | exact (hf' _ _ (by omega)).trans (by assumption)) | go_keep)
    (first | (go_at_call 40; refine (mend_c _ _ _ _ (hL.below (by go_split_ands; assumption))).mono ?_; rintro e wn ⟨rfl, hb⟩))
  clear t0
  rename World => w2
  go_split_ands
  have hB2 : Below w.heap.size w w2 := by assumption
  have lt_w1_w2 : w1.heap.size < w2.heap.size := by assumption
  go_wp2_with fail
  refine (mend_c _ _ _ _ (hL.below (by repeat (first | assumption | exact Below.refl _ _ | (with_reducible refine Below.drew ?_) | (with_reducible refine below_drewN' ?_ _) | (with_reducible refine below_al ?_) | ((with_reducible refine below_set ?_ ?_); rotate_left; focus (first | (simp; done) | (simp; omega))))))).mono ?_; rintro e w3 ⟨rfl, hb3⟩
  have hz3 := hb3.size; (try simp at hz3); obtain ⟨hc3, hf3⟩ := bcell hb3; have hB3 := below_step (w := w) hb3 (by repeat (first | assumption | exact Below.refl _ _ | (with_reducible refine Below.drew ?_) | (with_reducible refine below_drewN' ?_ _) | (with_reducible refine below_al ?_) | ((with_reducible refine below_set ?_ ?_); rotate_left; focus (first | (simp; done) | (simp; omega)))))
  have le_w_w3 : w.heap.size ≤ w3.heap.size := by omega
  try have lt_w_w3 : w.heap.size < w3.heap.size := by omega
  have le_w1_w3 : w1.heap.size ≤ w3.heap.size := by omega
  try have lt_w1_w3 : w1.heap.size < w3.heap.size := by omega
  have le_w2_w3 : w2.heap.size ≤ w3.heap.size := by omega
  try have lt_w2_w3 : w2.heap.size < w3.heap.size := by omega
  go_wp2_with fail
  refine (number_yes _ _ _ _ (hL.below (by repeat (first | assumption | exact Below.refl _ _ | (with_reducible refine Below.drew ?_) | (with_reducible refine below_drewN' ?_ _) | (with_reducible refine below_al ?_) | ((with_reducible refine below_set ?_ ?_); rotate_left; focus (first | (simp; done) | (simp; omega)))))) (by assumption)).mono ?_; rintro e w4 ⟨rfl, hb4⟩
  have hz4 := hb4.size; (try simp at hz4); obtain ⟨hc4, hf4⟩ := bcell hb4; have hB4 := below_step (w := w) hb4 (by repeat (first | assumption | exact Below.refl _ _ | (with_reducible refine Below.drew ?_) | (with_reducible refine below_drewN' ?_ _) | (with_reducible refine below_al ?_) | ((with_reducible refine below_set ?_ ?_); rotate_left; focus (first | (simp; done) | (simp; omega)))))
  have le_w_w4 : w.heap.size ≤ w4.heap.size := by omega
  try have lt_w_w4 : w.heap.size < w4.heap.size := by omega
  have le_w1_w4 : w1.heap.size ≤ w4.heap.size := by omega
  try have lt_w1_w4 : w1.heap.size < w4.heap.size := by omega
  have le_w2_w4 : w2.heap.size ≤ w4.heap.size := by omega
  try have lt_w2_w4 : w2.heap.size < w4.heap.size := by omega
  have le_w3_w4 : w3.heap.size ≤ w4.heap.size := by omega
  try have lt_w3_w4 : w3.heap.size < w4.heap.size := by omega
  go_wp2_with fail
  go_ret2
  exact ⟨rfl, by repeat (first | assumption | exact Below.refl _ _ | (with_reducible refine Below.drew ?_) | (with_reducible refine below_drewN' ?_ _) | (with_reducible refine below_al ?_) | ((with_reducible refine below_set ?_ ?_); rotate_left; focus (first | (simp; done) | (simp; omega))))⟩
end Go.Proofs.YtmaocplnikijnaaDoor
