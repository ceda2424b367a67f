/- The contracts of the layer of months, whole: a day so many months on. Conditions: the table of months' lengths lies as the program's text lays it. -/
import Derived.Test.YtmaocplnikijnaaDoorMonC
namespace Go.Proofs.YtmaocplnikijnaaDoor
open Go.RowKit
set_option linter.unusedVariables false

theorem move1_c (n k : Int) (eom : Bool) (n1 : 1 ≤ n) (n2 : n ≤ 3652059) (bk be : Nat) (w : World) (hL : Laid w) (hk : w.cell? ⟨bk, 0, none⟩ = some (.int .i64 k)) (he : w.cell? ⟨be, 0, none⟩ = some (.bool eom)) :
    Calls Tryd.prog 44 #[.agg #[.int .i64 (Cal.yOf n), .int .i64 (Cal.mOf n), .int .i64 (Cal.dOf n)], .pointer (some ⟨bk, 0, none⟩), .pointer (some ⟨be, 0, none⟩)] w fun e w' => e = .returned (.tuple #[.int .i64 (Mon.V n k eom), .int .i64 (Mon.E n k)]) ∧ Below w.heap.size w w' := by
  have A := Cal.day_of n n1 n2
  have hd : Cal.dOf n ≤ 31 := by have := Cal.len_bd (Cal.yOf n) (Cal.mOf n) A.m1 A.m2; have := A.d2; omega
  have hM : 12 * Cal.yOf n + Cal.mOf n - 1 + k = Mon.M n k := rfl
  cases h : Mon.okB n k
  · obtain ⟨v1, v2⟩ := Mon.V_no (eom := eom) h
    rw [v1, v2]
    have hn : ¬ (1 ≤ n ∧ n ≤ 3652059 ∧ 12 ≤ Mon.M n k ∧ Mon.M n k ≤ 119999) := fun c => by rw [(Mon.ok_iff n k).2 c] at h; cases h
    by_cases c : -119988 ≤ k ∧ k ≤ 119988
    · exact move1_no2 _ _ _ k _ eom bk be hM A.y1 A.y2 A.m1 A.m2 A.d1 hd c.1 c.2 (show _ ∨ _ by omega) w hL hk he
    · exact move1_no1 _ _ _ k _ eom bk be hM A.y1 A.y2 A.m1 A.m2 A.d1 hd (show _ ∨ _ by omega) w hL hk he
  · obtain ⟨v1, v2⟩ := Mon.V_yes (eom := eom) h
    obtain ⟨_, _, M1, M2⟩ := (Mon.ok_iff n k).1 h
    rw [v1, v2]
    have y1 := A.y1; have y2 := A.y2; have m1 := A.m1; have m2 := A.m2
    have k1 : -119988 ≤ k := by omega
    have k2 : k ≤ 119988 := by omega
    have hv := (Mon.day (eom := eom) h).may
    cases eom
    · have hD : Mon.D n k false = min (Cal.dOf n) (Cal.len (Mon.Y n k) (Mon.N n k)) := rfl
      rw [hD] at hv ⊢
      exact move1_f _ _ _ k _ bk be hM y1 y2 m1 m2 A.d1 hd k1 k2 M1 M2 _ _ _ rfl rfl rfl hv w hL hk he
    · cases c : Mon.isEnd n
      · have hD : Mon.D n k true = min (Cal.dOf n) (Cal.len (Mon.Y n k) (Mon.N n k)) := by unfold Mon.D; rw [c]; rfl
        rw [hD] at hv ⊢
        have c' : ¬ Cal.dOf n = Cal.len (Cal.yOf n) (Cal.mOf n) := fun g => by rw [(Mon.isEnd_iff n).2 g] at c; cases c
        exact move1_t _ _ _ k _ bk be hM y1 y2 m1 m2 A.d1 hd k1 k2 M1 M2 _ _ _ rfl rfl rfl hv (beq_eq_false_iff_ne.2 c') w hL hk he
      · have hD : Mon.D n k true = Cal.len (Mon.Y n k) (Mon.N n k) := by unfold Mon.D; rw [c]; rfl
        rw [hD] at hv ⊢
        exact move1_e _ _ _ k _ bk be hM y1 y2 m1 m2 A.d1 hd k1 k2 M1 M2 _ _ _ rfl rfl rfl hv (beq_iff_eq.2 ((Mon.isEnd_iff n).1 c)) w hL hk he
set_option maxHeartbeats 1000000 in
theorem at_move_in (n k : Int) (eom : Bool) (h1 : 1 ≤ n) (h2 : n ≤ 3652059) (bk be : Nat) (w : World) (hL : Laid w) (hk : w.cell? ⟨bk, 0, none⟩ = some (.int .i64 k)) (he : w.cell? ⟨be, 0, none⟩ = some (.bool eom)) : Calls Tryd.prog 38 #[.int .i64 n, .func (.func 44) #[] #[.pointer (some ⟨bk, 0, none⟩), .pointer (some ⟨be, 0, none⟩)]] w fun e w' => e = .returned (.tuple #[.int .i64 (Mon.V n k eom), .int .i64 (Mon.E n k)]) ∧ Below w.heap.size w w' := by
  have hbk : bk < w.heap.size := World.block_lt_of_cell? w _ hk
  have hbe : be < w.heap.size := World.block_lt_of_cell? w _ he
  have hB : Below w.heap.size w w := Below.refl _ _
  go_enter Tryd.func38, Tryd.ntmps38
  go_wp2_with fail
  refine (of_yes _ _ (hL.below (by repeat (first | assumption | exact Below.refl _ _ | (with_reducible refine Below.drew ?_) | (with_reducible refine below_drewN' ?_ _) | (with_reducible refine below_al ?_) | ((with_reducible refine below_set ?_ ?_); rotate_left; focus (first | (simp; done) | (simp; omega)))))) (by assumption) (by assumption)).mono ?_; rintro e w1 ⟨rfl, hb1⟩
  have hz1 := hb1.size; (try simp at hz1); obtain ⟨hc1, hf1⟩ := bcell hb1; have hB1 := below_step (w := w) hb1 (by repeat (first | assumption | exact Below.refl _ _ | (with_reducible refine Below.drew ?_) | (with_reducible refine below_drewN' ?_ _) | (with_reducible refine below_al ?_) | ((with_reducible refine below_set ?_ ?_); rotate_left; focus (first | (simp; done) | (simp; omega)))))
  have le_w_w1 : w.heap.size ≤ w1.heap.size := by omega
  try have lt_w_w1 : w.heap.size < w1.heap.size := by omega
  have lb_bk_w1 : bk < w1.heap.size := by omega
  have lc_bk_w1 : bk ≤ w1.heap.size := by omega
  have lb_be_w1 : be < w1.heap.size := by omega
  have lc_be_w1 : be ≤ w1.heap.size := by omega
  go_wp2_with fail
  refine (move1_c n k eom h1 h2 bk be _ (hL.below (by repeat (first | assumption | exact Below.refl _ _ | (with_reducible refine Below.drew ?_) | (with_reducible refine below_drewN' ?_ _) | (with_reducible refine below_al ?_) | ((with_reducible refine below_set ?_ ?_); rotate_left; focus (first | (simp; done) | (simp; omega)))))) (by simp [*, go_sem]) (by simp [*, go_sem])).mono ?_; rintro e w2 ⟨rfl, hb2⟩
  have hB2 := below_step (w := w) hb2 (by repeat (first | assumption | exact Below.refl _ _ | (with_reducible refine Below.drew ?_) | (with_reducible refine below_drewN' ?_ _) | (with_reducible refine below_al ?_) | ((with_reducible refine below_set ?_ ?_); rotate_left; focus (first | (simp; done) | (simp; omega)))))
  go_wp2_with fail
  go_ret2
  exact ⟨rfl, by repeat (first | assumption | exact Below.refl _ _ | (with_reducible refine Below.drew ?_) | (with_reducible refine below_drewN' ?_ _) | (with_reducible refine below_al ?_) | ((with_reducible refine below_set ?_ ?_); rotate_left; focus (first | (simp; done) | (simp; omega))))⟩
set_option maxHeartbeats 1000000 in
theorem at_move_out (n : Int) (bk be : Nat) (h : Hid (n < 1 ∨ 3652059 < n)) (w : World) (hL : Laid w) : Calls Tryd.prog 38 #[.int .i64 n, .func (.func 44) #[] #[.pointer (some ⟨bk, 0, none⟩), .pointer (some ⟨be, 0, none⟩)]] w fun e w' => e = .returned (.tuple #[.int .i64 0, .int .i64 3]) ∧ Below w.heap.size w w' := by
  have hB : Below w.heap.size w w := Below.refl _ _
  go_enter Tryd.func38, Tryd.ntmps38
  go_wp2_with fail
  refine (of_no _ _ h.out).mono ?_; rintro e w1 ⟨rfl, hb1⟩
  have hz1 := hb1.size; (try simp at hz1); obtain ⟨hc1, hf1⟩ := bcell hb1; have hB1 := below_step (w := w) hb1 (by repeat (first | assumption | exact Below.refl _ _ | (with_reducible refine Below.drew ?_) | (with_reducible refine below_drewN' ?_ _) | (with_reducible refine below_al ?_) | ((with_reducible refine below_set ?_ ?_); rotate_left; focus (first | (simp; done) | (simp; omega)))))
  have le_w_w1 : w.heap.size ≤ w1.heap.size := by omega
  try have lt_w_w1 : w.heap.size < w1.heap.size := by omega
  go_wp2_with fail
  go_ret2
  exact ⟨rfl, by repeat (first | assumption | exact Below.refl _ _ | (with_reducible refine Below.drew ?_) | (with_reducible refine below_drewN' ?_ _) | (with_reducible refine below_al ?_) | ((with_reducible refine below_set ?_ ?_); rotate_left; focus (first | (simp; done) | (simp; omega))))⟩
set_option maxHeartbeats 1000000 in
theorem move_in (n k : Int) (eom : Bool) (h1 : 1 ≤ n) (h2 : n ≤ 3652059) (w : World) (hL : Laid w) : Calls Tryd.prog 23 #[.int .i64 n, .int .i64 k, .bool eom] w fun e w' => e = .returned (.tuple #[.int .i64 (Mon.V n k eom), .int .i64 (Mon.E n k)]) ∧ Below w.heap.size w w' := by
  have hmf : ∀ (fn : Fn) (first cap : Array Value) (w : World), (Instr.makeFunc fn first cap).run Tryd.prog w = .ok (.func fn first cap) w := fun _ _ _ _ => rfl
  have hB : Below w.heap.size w w := Below.refl _ _
  go_enter Tryd.func23, Tryd.ntmps23
  go_wp2_with fail
  refine (at_move_in n k eom h1 h2 _ _ _ (hL.below (by repeat (first | assumption | exact Below.refl _ _ | (with_reducible refine Below.drew ?_) | (with_reducible refine below_drewN' ?_ _) | (with_reducible refine below_al ?_) | ((with_reducible refine below_set ?_ ?_); rotate_left; focus (first | (simp; done) | (simp; omega)))))) (by simp [go_sem]) (by simp [go_sem])).mono ?_; rintro e w1 ⟨rfl, hb1⟩
  have hz1 := hb1.size; (try simp at hz1); obtain ⟨hc1, hf1⟩ := bcell hb1; have hB1 := below_step (w := w) hb1 (by repeat (first | assumption | exact Below.refl _ _ | (with_reducible refine Below.drew ?_) | (with_reducible refine below_drewN' ?_ _) | (with_reducible refine below_al ?_) | ((with_reducible refine below_set ?_ ?_); rotate_left; focus (first | (simp; done) | (simp; omega)))))
  have le_w_w1 : w.heap.size ≤ w1.heap.size := by omega
  try have lt_w_w1 : w.heap.size < w1.heap.size := by omega
  go_wp2_with fail
  go_ret2
  exact ⟨rfl, by repeat (first | assumption | exact Below.refl _ _ | (with_reducible refine Below.drew ?_) | (with_reducible refine below_drewN' ?_ _) | (with_reducible refine below_al ?_) | ((with_reducible refine below_set ?_ ?_); rotate_left; focus (first | (simp; done) | (simp; omega))))⟩
set_option maxHeartbeats 1000000 in
theorem move_out (n k : Int) (eom : Bool) (h : Hid (n < 1 ∨ 3652059 < n)) (w : World) (hL : Laid w) : Calls Tryd.prog 23 #[.int .i64 n, .int .i64 k, .bool eom] w fun e w' => e = .returned (.tuple #[.int .i64 0, .int .i64 3]) ∧ Below w.heap.size w w' := by
  have hmf : ∀ (fn : Fn) (first cap : Array Value) (w : World), (Instr.makeFunc fn first cap).run Tryd.prog w = .ok (.func fn first cap) w := fun _ _ _ _ => rfl
  have hB : Below w.heap.size w w := Below.refl _ _
  go_enter Tryd.func23, Tryd.ntmps23
  go_wp2_with fail
  refine (at_move_out n _ _ h _ (hL.below (by repeat (first | assumption | exact Below.refl _ _ | (with_reducible refine Below.drew ?_) | (with_reducible refine below_drewN' ?_ _) | (with_reducible refine below_al ?_) | ((with_reducible refine below_set ?_ ?_); rotate_left; focus (first | (simp; done) | (simp; omega))))))).mono ?_; rintro e w1 ⟨rfl, hb1⟩
  have hz1 := hb1.size; (try simp at hz1); obtain ⟨hc1, hf1⟩ := bcell hb1; have hB1 := below_step (w := w) hb1 (by repeat (first | assumption | exact Below.refl _ _ | (with_reducible refine Below.drew ?_) | (with_reducible refine below_drewN' ?_ _) | (with_reducible refine below_al ?_) | ((with_reducible refine below_set ?_ ?_); rotate_left; focus (first | (simp; done) | (simp; omega)))))
  have le_w_w1 : w.heap.size ≤ w1.heap.size := by omega
  try have lt_w_w1 : w.heap.size < w1.heap.size := by omega
  go_wp2_with fail
  go_ret2
  exact ⟨rfl, by repeat (first | assumption | exact Below.refl _ _ | (with_reducible refine Below.drew ?_) | (with_reducible refine below_drewN' ?_ _) | (with_reducible refine below_al ?_) | ((with_reducible refine below_set ?_ ?_); rotate_left; focus (first | (simp; done) | (simp; omega))))⟩
theorem mon_out {n : Int} (h : n < 1 ∨ 3652059 < n) (k : Int) (eom : Bool) : Mon.V n k eom = 0 ∧ Mon.E n k = 3 := by
  apply Mon.V_no
  cases c : Mon.okB n k
  · rfl
  · have := (Mon.ok_iff n k).1 c; omega
theorem move_c (n k : Int) (eom : Bool) (w : World) (hL : Laid w) : Calls Tryd.prog 23 #[.int .i64 n, .int .i64 k, .bool eom] w fun e w' => e = .returned (.tuple #[.int .i64 (Mon.V n k eom), .int .i64 (Mon.E n k)]) ∧ Below w.heap.size w w' := by
  by_cases h : 1 ≤ n ∧ n ≤ 3652059
  · exact move_in n k eom h.1 h.2 w hL
  · have q : n < 1 ∨ 3652059 < n := by omega
    rw [(mon_out q k eom).1, (mon_out q k eom).2]; exact move_out n k eom q w hL
theorem shift_c (n k : Int) (w : World) (hL : Laid w) : Calls Tryd.prog 25 #[.int .i64 n, .int .i64 k] w fun e w' => e = .returned (.tuple #[.int .i64 (Mon.V n k false), .int .i64 (Mon.E n k)]) ∧ Below w.heap.size w w' := by
  go_enter Tryd.func25, Tryd.ntmps25
  go_wp2_with fail
  refine (move_c _ _ _ _ hL).mono ?_; rintro e w1 ⟨rfl, hb1⟩
  go_wp2_with fail
  go_ret2
  exact ⟨rfl, hb1⟩
end Go.Proofs.YtmaocplnikijnaaDoor
