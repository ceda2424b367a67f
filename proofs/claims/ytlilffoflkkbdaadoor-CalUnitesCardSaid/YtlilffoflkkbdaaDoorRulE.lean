/- The contracts of the layer of rules, fifth part: a rule's day of a year by the document, as it stands. Conditions: none. -/
import Derived.Test.YtlilffoflkkbdaaDoorRulA
import Derived.BigQuiet
namespace Go.Proofs.YtlilffoflkkbdaaDoor
open Go.RowKit
set_option linter.unusedVariables false

set_option maxHeartbeats 1000000 in
theorem rbase_lo (kd mo da kk off sh fr to y : Int) (g1 : y < fr) (w : World) : Calls Tryd.prog 82 #[.agg #[.int .i64 kd, .int .i64 mo, .int .i64 da, .int .i64 kk, .int .i64 off, .int .i64 sh, .int .i64 fr, .int .i64 to], .int .i64 y] w fun e w' => e = .returned (.tuple #[.int .i64 0, .bool false]) ∧ Below w.heap.size w w' := by
  have hB : Below w.heap.size w w := Below.refl _ _
  go_enter Tryd.func82, Tryd.ntmps82
  go_wp2_with fail
  go_ret2
  exact ⟨rfl, by repeat (first | assumption | exact Below.refl _ _ | (with_reducible refine Below.drew ?_) | (with_reducible refine below_drewN' ?_ _) | (with_reducible refine below_al ?_) | ((with_reducible refine below_set ?_ ?_); rotate_left; focus (first | (simp; done) | (simp; omega))))⟩
set_option maxHeartbeats 1000000 in
theorem rbase_hi (kd mo da kk off sh fr to y : Int) (g1 : ¬ y < fr) (g2 : to < y) (w : World) : Calls Tryd.prog 82 #[.agg #[.int .i64 kd, .int .i64 mo, .int .i64 da, .int .i64 kk, .int .i64 off, .int .i64 sh, .int .i64 fr, .int .i64 to], .int .i64 y] w fun e w' => e = .returned (.tuple #[.int .i64 0, .bool false]) ∧ Below w.heap.size w w' := by
  have hB : Below w.heap.size w w := Below.refl _ _
  go_enter Tryd.func82, Tryd.ntmps82
  go_wp2_with fail
  go_ret2
  exact ⟨rfl, by repeat (first | assumption | exact Below.refl _ _ | (with_reducible refine Below.drew ?_) | (with_reducible refine below_drewN' ?_ _) | (with_reducible refine below_al ?_) | ((with_reducible refine below_set ?_ ?_); rotate_left; focus (first | (simp; done) | (simp; omega))))⟩
set_option maxHeartbeats 1000000 in
theorem rbase_3in (kd mo da kk off sh fr to y : Int) (g1 : ¬ y < fr) (g2 : ¬ to < y) (o1 : -100 ≤ off) (o2 : off ≤ 250) (v1 : 1 ≤ easV y) (v2 : easV y ≤ 3652059) (c1 : ¬ easV y + off < 1) (c2 : ¬ 3652059 < easV y + off) (w : World) : Calls Tryd.prog 82 #[.agg #[.int .i64 3, .int .i64 mo, .int .i64 da, .int .i64 kk, .int .i64 off, .int .i64 sh, .int .i64 fr, .int .i64 to], .int .i64 y] w fun e w' => e = .returned (.tuple #[.int .i64 (easV y + off), .bool true]) ∧ Below w.heap.size w w' := by
  have hB : Below w.heap.size w w := Below.refl _ _
  go_enter Tryd.func82, Tryd.ntmps82
  go_wp2_with fail
  refine (reaster_c' _ _).mono ?_; rintro e w1 ⟨rfl, hb1⟩
  have hz1 := hb1.size; (try simp at hz1); obtain ⟨hc1, hf1⟩ := bcell hb1; have hB1 := below_step (w := w) hb1 (by repeat (first | assumption | exact Below.refl _ _ | (with_reducible refine Below.drew ?_) | (with_reducible refine below_drewN' ?_ _) | (with_reducible refine below_al ?_) | ((with_reducible refine below_set ?_ ?_); rotate_left; focus (first | (simp; done) | (simp; omega)))))
  have le_w_w1 : w.heap.size ≤ w1.heap.size := by omega
  try have lt_w_w1 : w.heap.size < w1.heap.size := by omega
  go_wp2_with fail
  go_ret2
  exact ⟨rfl, by repeat (first | assumption | exact Below.refl _ _ | (with_reducible refine Below.drew ?_) | (with_reducible refine below_drewN' ?_ _) | (with_reducible refine below_al ?_) | ((with_reducible refine below_set ?_ ?_); rotate_left; focus (first | (simp; done) | (simp; omega))))⟩
set_option maxHeartbeats 1000000 in
theorem rbase_3lo (kd mo da kk off sh fr to y : Int) (g1 : ¬ y < fr) (g2 : ¬ to < y) (o1 : -100 ≤ off) (o2 : off ≤ 250) (v1 : 1 ≤ easV y) (v2 : easV y ≤ 3652059) (c1 : easV y + off < 1) (w : World) : Calls Tryd.prog 82 #[.agg #[.int .i64 3, .int .i64 mo, .int .i64 da, .int .i64 kk, .int .i64 off, .int .i64 sh, .int .i64 fr, .int .i64 to], .int .i64 y] w fun e w' => e = .returned (.tuple #[.int .i64 0, .bool false]) ∧ Below w.heap.size w w' := by
  have hB : Below w.heap.size w w := Below.refl _ _
  go_enter Tryd.func82, Tryd.ntmps82
  go_wp2_with fail
  refine (reaster_c' _ _).mono ?_; rintro e w1 ⟨rfl, hb1⟩
  have hz1 := hb1.size; (try simp at hz1); obtain ⟨hc1, hf1⟩ := bcell hb1; have hB1 := below_step (w := w) hb1 (by repeat (first | assumption | exact Below.refl _ _ | (with_reducible refine Below.drew ?_) | (with_reducible refine below_drewN' ?_ _) | (with_reducible refine below_al ?_) | ((with_reducible refine below_set ?_ ?_); rotate_left; focus (first | (simp; done) | (simp; omega)))))
  have le_w_w1 : w.heap.size ≤ w1.heap.size := by omega
  try have lt_w_w1 : w.heap.size < w1.heap.size := by omega
  go_wp2_with fail
  go_ret2
  exact ⟨rfl, by repeat (first | assumption | exact Below.refl _ _ | (with_reducible refine Below.drew ?_) | (with_reducible refine below_drewN' ?_ _) | (with_reducible refine below_al ?_) | ((with_reducible refine below_set ?_ ?_); rotate_left; focus (first | (simp; done) | (simp; omega))))⟩
set_option maxHeartbeats 1000000 in
theorem rbase_3hi (kd mo da kk off sh fr to y : Int) (g1 : ¬ y < fr) (g2 : ¬ to < y) (o1 : -100 ≤ off) (o2 : off ≤ 250) (v1 : 1 ≤ easV y) (v2 : easV y ≤ 3652059) (c1 : ¬ easV y + off < 1) (c2 : 3652059 < easV y + off) (w : World) : Calls Tryd.prog 82 #[.agg #[.int .i64 3, .int .i64 mo, .int .i64 da, .int .i64 kk, .int .i64 off, .int .i64 sh, .int .i64 fr, .int .i64 to], .int .i64 y] w fun e w' => e = .returned (.tuple #[.int .i64 0, .bool false]) ∧ Below w.heap.size w w' := by
  have hB : Below w.heap.size w w := Below.refl _ _
  go_enter Tryd.func82, Tryd.ntmps82
  go_wp2_with fail
  refine (reaster_c' _ _).mono ?_; rintro e w1 ⟨rfl, hb1⟩
  have hz1 := hb1.size; (try simp at hz1); obtain ⟨hc1, hf1⟩ := bcell hb1; have hB1 := below_step (w := w) hb1 (by repeat (first | assumption | exact Below.refl _ _ | (with_reducible refine Below.drew ?_) | (with_reducible refine below_drewN' ?_ _) | (with_reducible refine below_al ?_) | ((with_reducible refine below_set ?_ ?_); rotate_left; focus (first | (simp; done) | (simp; omega)))))
  have le_w_w1 : w.heap.size ≤ w1.heap.size := by omega
  try have lt_w_w1 : w.heap.size < w1.heap.size := by omega
  go_wp2_with fail
  go_ret2
  exact ⟨rfl, by repeat (first | assumption | exact Below.refl _ _ | (with_reducible refine Below.drew ?_) | (with_reducible refine below_drewN' ?_ _) | (with_reducible refine below_al ?_) | ((with_reducible refine below_set ?_ ?_); rotate_left; focus (first | (simp; done) | (simp; omega))))⟩
set_option maxHeartbeats 1000000 in
theorem rbase_0 (kd mo da kk off sh fr to y : Int) (LEN T f c : Int) (g1 : ¬ y < fr) (g2 : ¬ to < y) (hn : Cal.len y mo = LEN) (hf : numV y mo 1 = f) (l1 : 28 ≤ LEN) (l2 : LEN ≤ 31) (f1 : 1 ≤ f) (f2 : f ≤ 3652059) (d1 : 1 ≤ da) (hT : Hid ((if da < LEN + 1 then f + da - 1 else 0) = T)) (w : World) : Calls Tryd.prog 82 #[.agg #[.int .i64 0, .int .i64 mo, .int .i64 da, .int .i64 kk, .int .i64 off, .int .i64 sh, .int .i64 fr, .int .i64 to], .int .i64 y] w fun e w' => e = .returned (.tuple #[.int .i64 T, .bool (Rul.pos T)]) ∧ Below w.heap.size w w' := by
  have hB : Below w.heap.size w w := Below.refl _ _
  go_enter Tryd.func82, Tryd.ntmps82
  go_wp2_with fail
  refine (rlength_c _ _ _).mono ?_; rintro e w' ⟨rfl, rfl⟩
  go_wp2_with fail
  refine (rnumber_c _ _ _ _).mono ?_; rintro e w1 ⟨rfl, hb1⟩
  have hz1 := hb1.size; (try simp at hz1); obtain ⟨hc1, hf1⟩ := bcell hb1; have hB1 := below_step (w := w) hb1 (by repeat (first | assumption | exact Below.refl _ _ | (with_reducible refine Below.drew ?_) | (with_reducible refine below_drewN' ?_ _) | (with_reducible refine below_al ?_) | ((with_reducible refine below_set ?_ ?_); rotate_left; focus (first | (simp; done) | (simp; omega)))))
  have le_w_w1 : w.heap.size ≤ w1.heap.size := by omega
  try have lt_w_w1 : w.heap.size < w1.heap.size := by omega
  go_wp2_with fail
  go_loop [12, 13, 14] (fun a b d => ∃ s v i : Int, a = .int .i64 s ∧ b = .int .i64 v ∧ d = .int .i64 i ∧ 1 ≤ i ∧ i ≤ LEN + 1 ∧ 0 ≤ s ∧ s ≤ 5 ∧ Hid (s = 0) ∧ Hid (v = if da < i then f + da - 1 else 0)) (fun _ _ d => (LEN + 1 - intOf d).toNat)
  case atStart => exact ⟨0, 0, 1, rfl, rfl, rfl, by omega, by omega, by omega, by omega, show _ = _ by rfl, show _ = _ by rw [if_neg (by omega)]⟩
  case round =>
    obtain ⟨s, v, i, rfl, rfl, rfl, i1, i2, s1, s2, hs, hv⟩ := hrel
    by_cases hi : i ≤ LEN
    · by_cases hd : (i == da) = true
      · go_wp2
        go_round
        case rel => exact ⟨s, _, i + 1, rfl, rfl, rfl, by omega, by omega, s1, s2, hs, show _ = _ by have := beq_iff_eq.1 hd; rw [if_pos (by omega)]; omega⟩
        case measure => simp [intOf]; omega
      · have hd' : (i == da) = false := by simpa using hd
        clear hd
        go_wp2
        go_round
        case rel => exact ⟨s, v, i + 1, rfl, rfl, rfl, by omega, by omega, s1, s2, hs, show _ = _ by have := beq_eq_false_iff_ne.1 hd'; have h := hv.out; rw [h]; split <;> split <;> omega⟩
        case measure => simp [intOf]; omega
    · have e : i = LEN + 1 := by omega
      have ev : v = T := by have := hv.out; rw [this, ← hT.out, e]
      clear hv hs hT
      subst ev
      go_wp2
      go_ret2
      exact ⟨rfl, by repeat (first | assumption | exact Below.refl _ _ | (with_reducible refine Below.drew ?_) | (with_reducible refine below_drewN' ?_ _) | (with_reducible refine below_al ?_) | ((with_reducible refine below_set ?_ ?_); rotate_left; focus (first | (simp; done) | (simp; omega))))⟩
set_option maxHeartbeats 1000000 in
theorem rbase_2 (kd mo da kk off sh fr to y : Int) (LEN T f c : Int) (g1 : ¬ y < fr) (g2 : ¬ to < y) (hn : Cal.len y mo = LEN) (hf : numV y mo 1 = f) (l1 : 28 ≤ LEN) (l2 : LEN ≤ 31) (f1 : 1 ≤ f) (f2 : f ≤ 3652059) (c1 : 0 ≤ c) (c2 : c ≤ 6) (hc : Hid (∀ i : Int, Cal.wd (f + i - 1) = da ↔ (i - 1 - c) % 7 = 0)) (hT : Hid ((if (LEN + 1 + 5 - c) / 7 = 0 then 0 else f + c + 7 * ((LEN + 1 + 5 - c) / 7 - 1)) = T)) (w : World) : Calls Tryd.prog 82 #[.agg #[.int .i64 2, .int .i64 mo, .int .i64 da, .int .i64 kk, .int .i64 off, .int .i64 sh, .int .i64 fr, .int .i64 to], .int .i64 y] w fun e w' => e = .returned (.tuple #[.int .i64 T, .bool (Rul.pos T)]) ∧ Below w.heap.size w w' := by
  have hB : Below w.heap.size w w := Below.refl _ _
  go_enter Tryd.func82, Tryd.ntmps82
  go_wp2_with fail
  refine (rlength_c _ _ _).mono ?_; rintro e w' ⟨rfl, rfl⟩
  go_wp2_with fail
  refine (rnumber_c _ _ _ _).mono ?_; rintro e w1 ⟨rfl, hb1⟩
  have hz1 := hb1.size; (try simp at hz1); obtain ⟨hc1, hf1⟩ := bcell hb1; have hB1 := below_step (w := w) hb1 (by repeat (first | assumption | exact Below.refl _ _ | (with_reducible refine Below.drew ?_) | (with_reducible refine below_drewN' ?_ _) | (with_reducible refine below_al ?_) | ((with_reducible refine below_set ?_ ?_); rotate_left; focus (first | (simp; done) | (simp; omega)))))
  have le_w_w1 : w.heap.size ≤ w1.heap.size := by omega
  try have lt_w_w1 : w.heap.size < w1.heap.size := by omega
  go_wp2_with fail
  go_loopw [12, 13, 14] (fun a b d W' => ∃ (s v i : Int) (nn : Nat), a = .int .i64 s ∧ b = .int .i64 v ∧ d = .int .i64 i ∧ 1 ≤ i ∧ i ≤ LEN + 1 ∧ 0 ≤ s ∧ s ≤ 5 ∧ Hid (s = (i + 5 - c) / 7) ∧ Hid (v = if (i + 5 - c) / 7 = 0 then 0 else f + c + 7 * ((i + 5 - c) / 7 - 1)) ∧ W' = w1.drewN nn) (fun _ _ d _ => (LEN + 1 - intOf d).toNat)
  case atStart => exact ⟨0, 0, 1, 0, rfl, rfl, rfl, by omega, by omega, by omega, by omega, show _ = _ by omega, show _ = _ by rw [if_pos (by omega)], rfl⟩
  case round =>
    obtain ⟨s, v, i, nn, rfl, rfl, rfl, i1, i2, s1, s2, hs, hv, hw1⟩ := hrel
    have hcw : ∀ (b o : Nat), wr.cell? ⟨b, o, none⟩ = w1.cell? ⟨b, o, none⟩ := fun b o => by rw [hw1]; simp [go_sem]
    have hBw : Below w.heap.size w wr := by rw [hw1]; exact below_drewN' hB1 _
    have HW := Lib.hid hw1
    clear hw1
    by_cases hi : i ≤ LEN
    · by_cases hw : (Cal.wd (f + i - 1) == da) = true
      · have hq : (i - 1 - c) % 7 = 0 := (hc.out i).1 (beq_iff_eq.1 hw)
        have hqq := Lib.hid hq
        clear hq
        go_wp2
        go_quiet ((go_at_call 33; exact Calls.quiet_of_same ((rwd_c _ _).mono fun _ _ h => ⟨h.1, h.2.symm⟩)))
        go_wp2
        go_roundw
        case rel => exact ⟨s + 1, _, i + 1, nn + nq, rfl, rfl, rfl, by omega, by omega, by omega, by have := hs.out; have := hqq.out; omega, show _ = _ by have := hs.out; have := hqq.out; omega, show _ = _ by have := hqq.out; rw [if_neg (by omega)]; omega, by rw [HW.out, World.drewN_drewN]⟩
        case measure => simp [intOf]; omega
      · have hw' : (Cal.wd (f + i - 1) == da) = false := by simpa using hw
        have hq : ¬ (i - 1 - c) % 7 = 0 := fun q => beq_eq_false_iff_ne.1 hw' ((hc.out i).2 q)
        clear hw
        have hqq := Lib.hid hq
        clear hq
        go_wp2
        go_quiet ((go_at_call 33; exact Calls.quiet_of_same ((rwd_c _ _).mono fun _ _ h => ⟨h.1, h.2.symm⟩)))
        go_wp2
        go_roundw
        case rel => exact ⟨s, v, i + 1, nn + nq, rfl, rfl, rfl, by omega, by omega, s1, s2, show _ = _ by have := hs.out; have := hqq.out; omega, show _ = _ by have h := hv.out; have := hqq.out; rw [h]; split <;> split <;> omega, by rw [HW.out, World.drewN_drewN]⟩
        case measure => simp [intOf]; omega
    · have e : i = LEN + 1 := by omega
      have ev : v = T := by have := hv.out; rw [this, ← hT.out, e]
      clear hv hs hT
      subst ev
      go_wp2
      go_ret2
      exact ⟨rfl, by repeat (first | assumption | exact Below.refl _ _ | (with_reducible refine Below.drew ?_) | (with_reducible refine below_drewN' ?_ _) | (with_reducible refine below_al ?_) | ((with_reducible refine below_set ?_ ?_); rotate_left; focus (first | (simp; done) | (simp; omega))))⟩
set_option maxHeartbeats 1000000 in
theorem rbase_1 (kd mo da kk off sh fr to y : Int) (LEN T f c : Int) (g1 : ¬ y < fr) (g2 : ¬ to < y) (hn : Cal.len y mo = LEN) (hf : numV y mo 1 = f) (l1 : 28 ≤ LEN) (l2 : LEN ≤ 31) (f1 : 1 ≤ f) (f2 : f ≤ 3652059) (c1 : 0 ≤ c) (c2 : c ≤ 6) (hc : Hid (∀ i : Int, Cal.wd (f + i - 1) = da ↔ (i - 1 - c) % 7 = 0)) (hT : Hid ((if (LEN + 1 + 5 - c) / 7 < kk then 0 else f + c + 7 * (kk - 1)) = T)) (q1 : 1 ≤ kk) (q2 : kk ≤ 5) (w : World) : Calls Tryd.prog 82 #[.agg #[.int .i64 1, .int .i64 mo, .int .i64 da, .int .i64 kk, .int .i64 off, .int .i64 sh, .int .i64 fr, .int .i64 to], .int .i64 y] w fun e w' => e = .returned (.tuple #[.int .i64 T, .bool (Rul.pos T)]) ∧ Below w.heap.size w w' := by
  have hB : Below w.heap.size w w := Below.refl _ _
  go_enter Tryd.func82, Tryd.ntmps82
  go_wp2_with fail
  refine (rlength_c _ _ _).mono ?_; rintro e w' ⟨rfl, rfl⟩
  go_wp2_with fail
  refine (rnumber_c _ _ _ _).mono ?_; rintro e w1 ⟨rfl, hb1⟩
  have hz1 := hb1.size; (try simp at hz1); obtain ⟨hc1, hf1⟩ := bcell hb1; have hB1 := below_step (w := w) hb1 (by repeat (first | assumption | exact Below.refl _ _ | (with_reducible refine Below.drew ?_) | (with_reducible refine below_drewN' ?_ _) | (with_reducible refine below_al ?_) | ((with_reducible refine below_set ?_ ?_); rotate_left; focus (first | (simp; done) | (simp; omega)))))
  have le_w_w1 : w.heap.size ≤ w1.heap.size := by omega
  try have lt_w_w1 : w.heap.size < w1.heap.size := by omega
  go_wp2_with fail
  go_loopw [12, 13, 14] (fun a b d W' => ∃ (s v i : Int) (nn : Nat), a = .int .i64 s ∧ b = .int .i64 v ∧ d = .int .i64 i ∧ 1 ≤ i ∧ i ≤ LEN + 1 ∧ 0 ≤ s ∧ s ≤ 5 ∧ Hid (s = (i + 5 - c) / 7) ∧ Hid (v = if (i + 5 - c) / 7 < kk then 0 else f + c + 7 * (kk - 1)) ∧ W' = w1.drewN nn) (fun _ _ d _ => (LEN + 1 - intOf d).toNat)
  case atStart => exact ⟨0, 0, 1, 0, rfl, rfl, rfl, by omega, by omega, by omega, by omega, show _ = _ by omega, show _ = _ by rw [if_pos (by omega)], rfl⟩
  case round =>
    obtain ⟨s, v, i, nn, rfl, rfl, rfl, i1, i2, s1, s2, hs, hv, hw1⟩ := hrel
    have hcw : ∀ (b o : Nat), wr.cell? ⟨b, o, none⟩ = w1.cell? ⟨b, o, none⟩ := fun b o => by rw [hw1]; simp [go_sem]
    have hBw : Below w.heap.size w wr := by rw [hw1]; exact below_drewN' hB1 _
    have HW := Lib.hid hw1
    clear hw1
    by_cases hi : i ≤ LEN
    · by_cases hw : (Cal.wd (f + i - 1) == da) = true
      · have hq : (i - 1 - c) % 7 = 0 := (hc.out i).1 (beq_iff_eq.1 hw)
        have hqq := Lib.hid hq
        clear hq
        by_cases hk : (s + 1 == kk) = true
        · go_wp2
          go_quiet ((go_at_call 33; exact Calls.quiet_of_same ((rwd_c _ _).mono fun _ _ h => ⟨h.1, h.2.symm⟩)))
          go_wp2
          go_roundw
          case rel => exact ⟨s + 1, _, i + 1, nn + nq, rfl, rfl, rfl, by omega, by omega, by omega, by have := hs.out; have := hqq.out; omega, show _ = _ by have := hs.out; have := hqq.out; omega, show _ = _ by have := hs.out; have := hqq.out; have := beq_iff_eq.1 hk; rw [if_neg (by omega)]; omega, by rw [HW.out, World.drewN_drewN]⟩
          case measure => simp [intOf]; omega
        · have hk' : (s + 1 == kk) = false := by simpa using hk
          clear hk
          go_wp2
          go_quiet ((go_at_call 33; exact Calls.quiet_of_same ((rwd_c _ _).mono fun _ _ h => ⟨h.1, h.2.symm⟩)))
          go_wp2
          go_roundw
          case rel => exact ⟨s + 1, v, i + 1, nn + nq, rfl, rfl, rfl, by omega, by omega, by omega, by have := hs.out; have := hqq.out; omega, show _ = _ by have := hs.out; have := hqq.out; omega, show _ = _ by have h := hv.out; have := hs.out; have := hqq.out; have := beq_eq_false_iff_ne.1 hk'; rw [h]; split <;> split <;> omega, by rw [HW.out, World.drewN_drewN]⟩
          case measure => simp [intOf]; omega
      · have hw' : (Cal.wd (f + i - 1) == da) = false := by simpa using hw
        have hq : ¬ (i - 1 - c) % 7 = 0 := fun q => beq_eq_false_iff_ne.1 hw' ((hc.out i).2 q)
        clear hw
        have hqq := Lib.hid hq
        clear hq
        go_wp2
        go_quiet ((go_at_call 33; exact Calls.quiet_of_same ((rwd_c _ _).mono fun _ _ h => ⟨h.1, h.2.symm⟩)))
        go_wp2
        go_roundw
        case rel => exact ⟨s, v, i + 1, nn + nq, rfl, rfl, rfl, by omega, by omega, s1, s2, show _ = _ by have := hs.out; have := hqq.out; omega, show _ = _ by have h := hv.out; have := hqq.out; rw [h]; split <;> split <;> omega, by rw [HW.out, World.drewN_drewN]⟩
        case measure => simp [intOf]; omega
    · have e : i = LEN + 1 := by omega
      have ev : v = T := by have := hv.out; rw [this, ← hT.out, e]
      clear hv hs hT
      subst ev
      go_wp2
      go_ret2
      exact ⟨rfl, by repeat (first | assumption | exact Below.refl _ _ | (with_reducible refine Below.drew ?_) | (with_reducible refine below_drewN' ?_ _) | (with_reducible refine below_al ?_) | ((with_reducible refine below_set ?_ ?_); rotate_left; focus (first | (simp; done) | (simp; omega))))⟩
end Go.Proofs.YtlilffoflkkbdaaDoor
