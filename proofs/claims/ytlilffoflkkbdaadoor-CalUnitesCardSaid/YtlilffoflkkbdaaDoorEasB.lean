/- The contract of the document's Easter. Conditions: none. -/
import Derived.Test.YtlilffoflkkbdaaDoorEasA
namespace Go.Proofs.YtlilffoflkkbdaaDoor
open Go.RowKit
set_option linter.unusedVariables false

theorem reaster_no (y : Int) (w : World) (h : y < 1 ∨ 9999 < y) : Calls Tryd.prog 91 #[.int .i64 y] w fun e w' => e = .returned (.tuple #[.int .i64 0, .int .i64 3]) ∧ Below w.heap.size w w' := by
  rcases h with h | h
  · go_enter Tryd.func91, Tryd.ntmps91
    go_wp2
    go_ret2
    exact ⟨rfl, Below.refl _ _⟩
  · have h' : ¬ y < 1 := by omega
    go_enter Tryd.func91, Tryd.ntmps91
    go_wp2
    go_ret2
    exact ⟨rfl, Below.refl _ _⟩

theorem wd_step (s t : Int) (h1 : s ≤ t) (h2 : t ≤ s + (6 - Cal.wd s)) : Cal.wd t = Cal.wd s + (t - s) := by
  have := Cal.wd_bd s
  unfold Cal.wd at *
  omega
set_option maxHeartbeats 1000000 in
theorem reaster_a (y a b e : Int) (h1 : 1 ≤ y) (h2 : y ≤ 9999) (ha : y % 19 = a) (hb : y / 100 = b) (a1 : 0 ≤ a) (a2 : a ≤ 18) (b1 : 0 ≤ b) (b2 : b ≤ 99) (he : (11 * (a + 1) + 20 + ((8 * (b + 1) + 5) / 25 - 5) - (3 * (b + 1) / 4 - 12)) % 30 = e) (e1 : 0 ≤ e) (e2 : e ≤ 29) (k25 : (e == 25) = true) (g : 11 < a + 1) (n21 : 44 - (e + 1) < 21) (hm : Hid (Eas.moon y = 44 - (e + 1) + 30)) (w : World) : Calls Tryd.prog 91 #[.int .i64 y] w fun e w' => e = .returned (.tuple #[.int .i64 (Eas.rday y), .int .i64 0]) ∧ Below w.heap.size w w' := by
  have M := Lib.hid (Eas.may_march h1 h2 1 (by omega) (by omega))
  obtain ⟨p1, p2⟩ := (Cal.day_mk (Eas.may_march h1 h2 1 (by omega) (by omega))).bd
  obtain ⟨s, hs⟩ : ∃ s, s = Cal.num y 3 1 + (44 - (e + 1) + 30) := ⟨_, rfl⟩
  have HR : Hid (Eas.rday y = s + (6 - Cal.wd s)) := by unfold Eas.rday; rw [hm.out, hs]; exact rfl
  have HS := Lib.hid hs; clear hs
  obtain ⟨w1, w2⟩ := Cal.wd_bd s
  have q1 : -100 ≤ 11 * (a + 1) + 20 + ((8 * (b + 1) + 5) / 25 - 5) - (3 * (b + 1) / 4 - 12) := by omega
  have q2 : 11 * (a + 1) + 20 + ((8 * (b + 1) + 5) / 25 - 5) - (3 * (b + 1) / 4 - 12) ≤ 1000 := by omega
  have hB : Below w.heap.size w w := Below.refl _ _
  go_enter Tryd.func91, Tryd.ntmps91
  go_wp2_with fail
  refine (rest_c _ (by omega) (by omega) _).mono ?_; rintro e w' ⟨rfl, rfl⟩
  go_wp2_with fail
  refine (rnumber_yes _ _ _ _ M.out).mono ?_; rintro e w1 ⟨rfl, hb1⟩
  go_wp2_with fail
  have g1 : Cal.num y 3 1 ≤ s := by have := HS.out; omega
  have g2 : s ≤ Cal.num y 3 1 + 100 := by have := HS.out; omega
  go_loop [12] (fun t => ∃ x : Int, s ≤ x ∧ x ≤ s + (6 - Cal.wd s) ∧ t = .int .i64 x) (fun t => (s + 6 - intOf t).toNat)
  case atStart => exact ⟨_, Int.le_refl s, by omega, by rw [HS.out]⟩
  case round =>
    obtain ⟨x, x1, x2, rfl⟩ := hrel
    have hw := Lib.hid (wd_step s x x1 x2)
    by_cases k : x = s + (6 - Cal.wd s)
    · have k6 : (Cal.wd x != 6) = false := by have := hw.out; simp; omega
      have HX := Lib.hid k; clear k
      go_wp2_with (go_at_call 33; refine (rwd_c _ _).mono ?_; rintro e w' ⟨rfl, rfl⟩)
      go_ret2
      exact ⟨ret_two (by rw [HR.out]; exact HX.out) rfl, hb1⟩
    · have k6 : (Cal.wd x != 6) = true := by have := hw.out; simp; omega
      go_wp2_with (go_at_call 33; refine (rwd_c _ _).mono ?_; rintro e w' ⟨rfl, rfl⟩)
      go_round
      case rel => exact ⟨x + 1, by omega, by omega, rfl⟩
      case measure => simp [intOf]; omega
set_option maxHeartbeats 1000000 in
theorem reaster_b (y a b e : Int) (h1 : 1 ≤ y) (h2 : y ≤ 9999) (ha : y % 19 = a) (hb : y / 100 = b) (a1 : 0 ≤ a) (a2 : a ≤ 18) (b1 : 0 ≤ b) (b2 : b ≤ 99) (he : (11 * (a + 1) + 20 + ((8 * (b + 1) + 5) / 25 - 5) - (3 * (b + 1) / 4 - 12)) % 30 = e) (e1 : 0 ≤ e) (e2 : e ≤ 29) (k25 : (e == 25) = true) (k24 : (e == 24) = false) (g : ¬ 11 < a + 1) (n21 : 44 - e < 21) (hm : Hid (Eas.moon y = 44 - e + 30)) (w : World) : Calls Tryd.prog 91 #[.int .i64 y] w fun e w' => e = .returned (.tuple #[.int .i64 (Eas.rday y), .int .i64 0]) ∧ Below w.heap.size w w' := by
  have M := Lib.hid (Eas.may_march h1 h2 1 (by omega) (by omega))
  obtain ⟨p1, p2⟩ := (Cal.day_mk (Eas.may_march h1 h2 1 (by omega) (by omega))).bd
  obtain ⟨s, hs⟩ : ∃ s, s = Cal.num y 3 1 + (44 - e + 30) := ⟨_, rfl⟩
  have HR : Hid (Eas.rday y = s + (6 - Cal.wd s)) := by unfold Eas.rday; rw [hm.out, hs]; exact rfl
  have HS := Lib.hid hs; clear hs
  obtain ⟨w1, w2⟩ := Cal.wd_bd s
  have q1 : -100 ≤ 11 * (a + 1) + 20 + ((8 * (b + 1) + 5) / 25 - 5) - (3 * (b + 1) / 4 - 12) := by omega
  have q2 : 11 * (a + 1) + 20 + ((8 * (b + 1) + 5) / 25 - 5) - (3 * (b + 1) / 4 - 12) ≤ 1000 := by omega
  have hB : Below w.heap.size w w := Below.refl _ _
  go_enter Tryd.func91, Tryd.ntmps91
  go_wp2_with fail
  refine (rest_c _ (by omega) (by omega) _).mono ?_; rintro e w' ⟨rfl, rfl⟩
  go_wp2_with fail
  refine (rnumber_yes _ _ _ _ M.out).mono ?_; rintro e w1 ⟨rfl, hb1⟩
  go_wp2_with fail
  have g1 : Cal.num y 3 1 ≤ s := by have := HS.out; omega
  have g2 : s ≤ Cal.num y 3 1 + 100 := by have := HS.out; omega
  go_loop [12] (fun t => ∃ x : Int, s ≤ x ∧ x ≤ s + (6 - Cal.wd s) ∧ t = .int .i64 x) (fun t => (s + 6 - intOf t).toNat)
  case atStart => exact ⟨_, Int.le_refl s, by omega, by rw [HS.out]⟩
  case round =>
    obtain ⟨x, x1, x2, rfl⟩ := hrel
    have hw := Lib.hid (wd_step s x x1 x2)
    by_cases k : x = s + (6 - Cal.wd s)
    · have k6 : (Cal.wd x != 6) = false := by have := hw.out; simp; omega
      have HX := Lib.hid k; clear k
      go_wp2_with (go_at_call 33; refine (rwd_c _ _).mono ?_; rintro e w' ⟨rfl, rfl⟩)
      go_ret2
      exact ⟨ret_two (by rw [HR.out]; exact HX.out) rfl, hb1⟩
    · have k6 : (Cal.wd x != 6) = true := by have := hw.out; simp; omega
      go_wp2_with (go_at_call 33; refine (rwd_c _ _).mono ?_; rintro e w' ⟨rfl, rfl⟩)
      go_round
      case rel => exact ⟨x + 1, by omega, by omega, rfl⟩
      case measure => simp [intOf]; omega
set_option maxHeartbeats 1000000 in
theorem reaster_c (y a b e : Int) (h1 : 1 ≤ y) (h2 : y ≤ 9999) (ha : y % 19 = a) (hb : y / 100 = b) (a1 : 0 ≤ a) (a2 : a ≤ 18) (b1 : 0 ≤ b) (b2 : b ≤ 99) (he : (11 * (a + 1) + 20 + ((8 * (b + 1) + 5) / 25 - 5) - (3 * (b + 1) / 4 - 12)) % 30 = e) (e1 : 0 ≤ e) (e2 : e ≤ 29) (k25 : (e == 25) = false) (k24 : (e == 24) = true) (n21 : 44 - (e + 1) < 21) (hm : Hid (Eas.moon y = 44 - (e + 1) + 30)) (w : World) : Calls Tryd.prog 91 #[.int .i64 y] w fun e w' => e = .returned (.tuple #[.int .i64 (Eas.rday y), .int .i64 0]) ∧ Below w.heap.size w w' := by
  have M := Lib.hid (Eas.may_march h1 h2 1 (by omega) (by omega))
  obtain ⟨p1, p2⟩ := (Cal.day_mk (Eas.may_march h1 h2 1 (by omega) (by omega))).bd
  obtain ⟨s, hs⟩ : ∃ s, s = Cal.num y 3 1 + (44 - (e + 1) + 30) := ⟨_, rfl⟩
  have HR : Hid (Eas.rday y = s + (6 - Cal.wd s)) := by unfold Eas.rday; rw [hm.out, hs]; exact rfl
  have HS := Lib.hid hs; clear hs
  obtain ⟨w1, w2⟩ := Cal.wd_bd s
  have q1 : -100 ≤ 11 * (a + 1) + 20 + ((8 * (b + 1) + 5) / 25 - 5) - (3 * (b + 1) / 4 - 12) := by omega
  have q2 : 11 * (a + 1) + 20 + ((8 * (b + 1) + 5) / 25 - 5) - (3 * (b + 1) / 4 - 12) ≤ 1000 := by omega
  have hB : Below w.heap.size w w := Below.refl _ _
  go_enter Tryd.func91, Tryd.ntmps91
  go_wp2_with fail
  refine (rest_c _ (by omega) (by omega) _).mono ?_; rintro e w' ⟨rfl, rfl⟩
  go_wp2_with fail
  refine (rnumber_yes _ _ _ _ M.out).mono ?_; rintro e w1 ⟨rfl, hb1⟩
  go_wp2_with fail
  have g1 : Cal.num y 3 1 ≤ s := by have := HS.out; omega
  have g2 : s ≤ Cal.num y 3 1 + 100 := by have := HS.out; omega
  go_loop [12] (fun t => ∃ x : Int, s ≤ x ∧ x ≤ s + (6 - Cal.wd s) ∧ t = .int .i64 x) (fun t => (s + 6 - intOf t).toNat)
  case atStart => exact ⟨_, Int.le_refl s, by omega, by rw [HS.out]⟩
  case round =>
    obtain ⟨x, x1, x2, rfl⟩ := hrel
    have hw := Lib.hid (wd_step s x x1 x2)
    by_cases k : x = s + (6 - Cal.wd s)
    · have k6 : (Cal.wd x != 6) = false := by have := hw.out; simp; omega
      have HX := Lib.hid k; clear k
      go_wp2_with (go_at_call 33; refine (rwd_c _ _).mono ?_; rintro e w' ⟨rfl, rfl⟩)
      go_ret2
      exact ⟨ret_two (by rw [HR.out]; exact HX.out) rfl, hb1⟩
    · have k6 : (Cal.wd x != 6) = true := by have := hw.out; simp; omega
      go_wp2_with (go_at_call 33; refine (rwd_c _ _).mono ?_; rintro e w' ⟨rfl, rfl⟩)
      go_round
      case rel => exact ⟨x + 1, by omega, by omega, rfl⟩
      case measure => simp [intOf]; omega
set_option maxHeartbeats 1000000 in
theorem reaster_d (y a b e : Int) (h1 : 1 ≤ y) (h2 : y ≤ 9999) (ha : y % 19 = a) (hb : y / 100 = b) (a1 : 0 ≤ a) (a2 : a ≤ 18) (b1 : 0 ≤ b) (b2 : b ≤ 99) (he : (11 * (a + 1) + 20 + ((8 * (b + 1) + 5) / 25 - 5) - (3 * (b + 1) / 4 - 12)) % 30 = e) (e1 : 0 ≤ e) (e2 : e ≤ 29) (k25 : (e == 25) = false) (k24 : (e == 24) = false) (n21 : 44 - e < 21) (hm : Hid (Eas.moon y = 44 - e + 30)) (w : World) : Calls Tryd.prog 91 #[.int .i64 y] w fun e w' => e = .returned (.tuple #[.int .i64 (Eas.rday y), .int .i64 0]) ∧ Below w.heap.size w w' := by
  have M := Lib.hid (Eas.may_march h1 h2 1 (by omega) (by omega))
  obtain ⟨p1, p2⟩ := (Cal.day_mk (Eas.may_march h1 h2 1 (by omega) (by omega))).bd
  obtain ⟨s, hs⟩ : ∃ s, s = Cal.num y 3 1 + (44 - e + 30) := ⟨_, rfl⟩
  have HR : Hid (Eas.rday y = s + (6 - Cal.wd s)) := by unfold Eas.rday; rw [hm.out, hs]; exact rfl
  have HS := Lib.hid hs; clear hs
  obtain ⟨w1, w2⟩ := Cal.wd_bd s
  have q1 : -100 ≤ 11 * (a + 1) + 20 + ((8 * (b + 1) + 5) / 25 - 5) - (3 * (b + 1) / 4 - 12) := by omega
  have q2 : 11 * (a + 1) + 20 + ((8 * (b + 1) + 5) / 25 - 5) - (3 * (b + 1) / 4 - 12) ≤ 1000 := by omega
  have hB : Below w.heap.size w w := Below.refl _ _
  go_enter Tryd.func91, Tryd.ntmps91
  go_wp2_with fail
  refine (rest_c _ (by omega) (by omega) _).mono ?_; rintro e w' ⟨rfl, rfl⟩
  go_wp2_with fail
  refine (rnumber_yes _ _ _ _ M.out).mono ?_; rintro e w1 ⟨rfl, hb1⟩
  go_wp2_with fail
  have g1 : Cal.num y 3 1 ≤ s := by have := HS.out; omega
  have g2 : s ≤ Cal.num y 3 1 + 100 := by have := HS.out; omega
  go_loop [12] (fun t => ∃ x : Int, s ≤ x ∧ x ≤ s + (6 - Cal.wd s) ∧ t = .int .i64 x) (fun t => (s + 6 - intOf t).toNat)
  case atStart => exact ⟨_, Int.le_refl s, by omega, by rw [HS.out]⟩
  case round =>
    obtain ⟨x, x1, x2, rfl⟩ := hrel
    have hw := Lib.hid (wd_step s x x1 x2)
    by_cases k : x = s + (6 - Cal.wd s)
    · have k6 : (Cal.wd x != 6) = false := by have := hw.out; simp; omega
      have HX := Lib.hid k; clear k
      go_wp2_with (go_at_call 33; refine (rwd_c _ _).mono ?_; rintro e w' ⟨rfl, rfl⟩)
      go_ret2
      exact ⟨ret_two (by rw [HR.out]; exact HX.out) rfl, hb1⟩
    · have k6 : (Cal.wd x != 6) = true := by have := hw.out; simp; omega
      go_wp2_with (go_at_call 33; refine (rwd_c _ _).mono ?_; rintro e w' ⟨rfl, rfl⟩)
      go_round
      case rel => exact ⟨x + 1, by omega, by omega, rfl⟩
      case measure => simp [intOf]; omega
set_option maxHeartbeats 1000000 in
theorem reaster_e (y a b e : Int) (h1 : 1 ≤ y) (h2 : y ≤ 9999) (ha : y % 19 = a) (hb : y / 100 = b) (a1 : 0 ≤ a) (a2 : a ≤ 18) (b1 : 0 ≤ b) (b2 : b ≤ 99) (he : (11 * (a + 1) + 20 + ((8 * (b + 1) + 5) / 25 - 5) - (3 * (b + 1) / 4 - 12)) % 30 = e) (e1 : 0 ≤ e) (e2 : e ≤ 29) (k25 : (e == 25) = false) (k24 : (e == 24) = false) (n21 : ¬ 44 - e < 21) (hm : Hid (Eas.moon y = 44 - e)) (w : World) : Calls Tryd.prog 91 #[.int .i64 y] w fun e w' => e = .returned (.tuple #[.int .i64 (Eas.rday y), .int .i64 0]) ∧ Below w.heap.size w w' := by
  have M := Lib.hid (Eas.may_march h1 h2 1 (by omega) (by omega))
  obtain ⟨p1, p2⟩ := (Cal.day_mk (Eas.may_march h1 h2 1 (by omega) (by omega))).bd
  obtain ⟨s, hs⟩ : ∃ s, s = Cal.num y 3 1 + (44 - e) := ⟨_, rfl⟩
  have HR : Hid (Eas.rday y = s + (6 - Cal.wd s)) := by unfold Eas.rday; rw [hm.out, hs]; exact rfl
  have HS := Lib.hid hs; clear hs
  obtain ⟨w1, w2⟩ := Cal.wd_bd s
  have q1 : -100 ≤ 11 * (a + 1) + 20 + ((8 * (b + 1) + 5) / 25 - 5) - (3 * (b + 1) / 4 - 12) := by omega
  have q2 : 11 * (a + 1) + 20 + ((8 * (b + 1) + 5) / 25 - 5) - (3 * (b + 1) / 4 - 12) ≤ 1000 := by omega
  have hB : Below w.heap.size w w := Below.refl _ _
  go_enter Tryd.func91, Tryd.ntmps91
  go_wp2_with fail
  refine (rest_c _ (by omega) (by omega) _).mono ?_; rintro e w' ⟨rfl, rfl⟩
  go_wp2_with fail
  refine (rnumber_yes _ _ _ _ M.out).mono ?_; rintro e w1 ⟨rfl, hb1⟩
  go_wp2_with fail
  have g1 : Cal.num y 3 1 ≤ s := by have := HS.out; omega
  have g2 : s ≤ Cal.num y 3 1 + 100 := by have := HS.out; omega
  go_loop [12] (fun t => ∃ x : Int, s ≤ x ∧ x ≤ s + (6 - Cal.wd s) ∧ t = .int .i64 x) (fun t => (s + 6 - intOf t).toNat)
  case atStart => exact ⟨_, Int.le_refl s, by omega, by rw [HS.out]⟩
  case round =>
    obtain ⟨x, x1, x2, rfl⟩ := hrel
    have hw := Lib.hid (wd_step s x x1 x2)
    by_cases k : x = s + (6 - Cal.wd s)
    · have k6 : (Cal.wd x != 6) = false := by have := hw.out; simp; omega
      have HX := Lib.hid k; clear k
      go_wp2_with (go_at_call 33; refine (rwd_c _ _).mono ?_; rintro e w' ⟨rfl, rfl⟩)
      go_ret2
      exact ⟨ret_two (by rw [HR.out]; exact HX.out) rfl, hb1⟩
    · have k6 : (Cal.wd x != 6) = true := by have := hw.out; simp; omega
      go_wp2_with (go_at_call 33; refine (rwd_c _ _).mono ?_; rintro e w' ⟨rfl, rfl⟩)
      go_round
      case rel => exact ⟨x + 1, by omega, by omega, rfl⟩
      case measure => simp [intOf]; omega
theorem reaster_yes (y : Int) (h1 : 1 ≤ y) (h2 : y ≤ 9999) (w : World) : Calls Tryd.prog 91 #[.int .i64 y] w fun e w' => e = .returned (.tuple #[.int .i64 (Eas.rday y), .int .i64 0]) ∧ Below w.heap.size w w' := by
  obtain ⟨a, ha⟩ : ∃ a, y % 19 = a := ⟨_, rfl⟩
  obtain ⟨b, hb⟩ : ∃ b, y / 100 = b := ⟨_, rfl⟩
  have a1 : 0 ≤ a := by omega
  have a2 : a ≤ 18 := by omega
  have b1 : 0 ≤ b := by omega
  have b2 : b ≤ 99 := by omega
  obtain ⟨e, he⟩ : ∃ e, (11 * (a + 1) + 20 + ((8 * (b + 1) + 5) / 25 - 5) - (3 * (b + 1) / 4 - 12)) % 30 = e := ⟨_, rfl⟩
  have e1 : 0 ≤ e := by omega
  have e2 : e ≤ 29 := by omega
  have k0 : Eas.ee0 y = e := by unfold Eas.ee0 Eas.cc; rw [ha, hb]; exact he
  have mo : ∀ r, Eas.ee y = r → Eas.moon y = if 44 - r < 21 then 44 - r + 30 else 44 - r := fun r h => by unfold Eas.moon; rw [h]
  by_cases c25 : e = 25
  · by_cases g : 11 < a + 1
    · have : Eas.ee y = e + 1 := by unfold Eas.ee; rw [k0, ha, if_pos (Or.inl ⟨c25, g⟩)]
      exact reaster_a y a b e h1 h2 ha hb a1 a2 b1 b2 he e1 e2 (beq_iff_eq.2 c25) g (by omega) (by show _ = _; rw [mo _ this, if_pos (by omega)]) w
    · have : Eas.ee y = e := by unfold Eas.ee; rw [k0, ha, if_neg (by omega)]
      exact reaster_b y a b e h1 h2 ha hb a1 a2 b1 b2 he e1 e2 (beq_iff_eq.2 c25) (beq_eq_false_iff_ne.2 (by omega)) g (by omega) (by show _ = _; rw [mo _ this, if_pos (by omega)]) w
  · by_cases c24 : e = 24
    · have : Eas.ee y = e + 1 := by unfold Eas.ee; rw [k0, ha, if_pos (Or.inr c24)]
      exact reaster_c y a b e h1 h2 ha hb a1 a2 b1 b2 he e1 e2 (beq_eq_false_iff_ne.2 c25) (beq_iff_eq.2 c24) (by omega) (by show _ = _; rw [mo _ this, if_pos (by omega)]) w
    · have : Eas.ee y = e := by unfold Eas.ee; rw [k0, ha, if_neg (by omega)]
      by_cases n21 : 44 - e < 21
      · exact reaster_d y a b e h1 h2 ha hb a1 a2 b1 b2 he e1 e2 (beq_eq_false_iff_ne.2 c25) (beq_eq_false_iff_ne.2 c24) n21 (by show _ = _; rw [mo _ this, if_pos n21]) w
      · exact reaster_e y a b e h1 h2 ha hb a1 a2 b1 b2 he e1 e2 (beq_eq_false_iff_ne.2 c25) (beq_eq_false_iff_ne.2 c24) n21 (by show _ = _; rw [mo _ this, if_neg n21]) w
theorem reaster_c' (y : Int) (w : World) : Calls Tryd.prog 91 #[.int .i64 y] w fun e w' => e = .returned (.tuple #[.int .i64 (easV y), .int .i64 (easE y)]) ∧ Below w.heap.size w w' := by
  by_cases h : 1 ≤ y ∧ y ≤ 9999
  · obtain ⟨h1, h2⟩ := eas_in h.1 h.2; rw [h1, h2, Eas.agree y h.1 h.2]; exact reaster_yes y h.1 h.2 w
  · obtain ⟨h1, h2⟩ := eas_out (y := y) (by omega); rw [h1, h2]; exact reaster_no y w (by omega)

end Go.Proofs.YtlilffoflkkbdaaDoor
