/- The walk of CivilSpans: for every day and number of years the law returns true. Conditions: the table of months' lengths lies as the program's text lays it. -/
import Derived.Test.YtfcapdifenbcnaaDoorCivShown
import Derived.Test.YtfcapdifenbcnaaDoorCalMore
namespace Go.Proofs.YtfcapdifenbcnaaDoor
open Go.RowKit
set_option linter.unusedVariables false
theorem dby_span (a b : Int) (h : a ≤ b) : 365 * (b - a) ≤ Cal.dby b - Cal.dby a ∧ Cal.dby b - Cal.dby a ≤ 366 * (b - a) := by
  obtain ⟨n, hn⟩ : ∃ n : Nat, b = a + n := ⟨(b - a).toNat, by omega⟩
  subst hn
  clear h
  induction n with
  | zero => simp
  | succ n ih =>
    have := Cal.dby_succ (a + n)
    have := Cal.lp_01 (a + n)
    rw [show a + ((n + 1 : Nat) : Int) = a + n + 1 from by omega]
    omega
theorem span_len {y m d k : Int} (hm : ¬ (m = 2 ∧ d = 29)) (h : d ≤ Cal.len y m) (d1 : 1 ≤ d) : d ≤ Cal.len (y + k) m := by
  have a := Cal.lp_01 y
  have b := Cal.lp_01 (y + k)
  unfold Cal.len at h ⊢
  by_cases c : m = 2
  · rw [if_pos c] at h ⊢; omega
  · rw [if_neg c] at h ⊢; exact h
theorem cum_lo (y z m : Int) (h : m ≤ 2) : Cal.cum z m = Cal.cum y m := by
  unfold Cal.cum
  by_cases c : m ≤ 1
  · rw [if_pos c, if_pos c]
  · rw [if_neg c, if_neg c, if_pos (by omega), if_pos (by omega)]
theorem cum_hi (y z m : Int) (h : 2 < m) : Cal.cum z m - Cal.lp z = Cal.cum y m - Cal.lp y := by
  unfold Cal.cum; rw [if_neg (by omega), if_neg (by omega), if_neg (by omega), if_neg (by omega)]; omega

set_option maxHeartbeats 1000000 in
theorem civilSpans_no (y m d x k : Int) (hk : x % 401 = k) (x0 : 0 ≤ x) (x1 : x ≤ 65535) (k0 : 0 ≤ k) (k1 : k ≤ 400) (h : Cal.mayB y m d = false) (w : World) (hL : Laid w) : Calls Tryd.prog 12 #[.agg #[.int .i64 y, .int .i64 m, .int .i64 d], .int .u16 x] w fun e w' => e = .returned (.bool true) ∧ Below w.heap.size w w' := by
  have hB : Below w.heap.size w w := Below.refl _ _
  go_enter Tryd.func12, Tryd.ntmps12
  go_wp2_with fail
  refine (shown04_c _ (hL.below (by repeat (first | assumption | exact Below.refl _ _ | (with_reducible refine Below.drew ?_) | (with_reducible refine below_drewN' ?_ _) | (with_reducible refine below_al ?_) | ((with_reducible refine below_set ?_ ?_); rotate_left; (simp; omega)))))).mono ?_; rintro e w1 ⟨rfl, hb1⟩
  have hz1 := hb1.size; (try simp at hz1); obtain ⟨hc1, hf1⟩ := bcell hb1; have hB1 := below_step (w := w) hb1 (by repeat (first | assumption | exact Below.refl _ _ | (with_reducible refine Below.drew ?_) | (with_reducible refine below_drewN' ?_ _) | (with_reducible refine below_al ?_) | ((with_reducible refine below_set ?_ ?_); rotate_left; (simp; omega))))
  have le_w_w1 : w.heap.size ≤ w1.heap.size := by omega
  try have lt_w_w1 : w.heap.size < w1.heap.size := by omega
  go_wp2_with fail
  refine (rmay_c _ _ _ _).mono ?_; rintro e w2 ⟨rfl, hb2⟩
  have hz2 := hb2.size; (try simp at hz2); obtain ⟨hc2, hf2⟩ := bcell hb2; have hB2 := below_step (w := w) hb2 (by repeat (first | assumption | exact Below.refl _ _ | (with_reducible refine Below.drew ?_) | (with_reducible refine below_drewN' ?_ _) | (with_reducible refine below_al ?_) | ((with_reducible refine below_set ?_ ?_); rotate_left; (simp; omega))))
  have le_w_w2 : w.heap.size ≤ w2.heap.size := by omega
  try have lt_w_w2 : w.heap.size < w2.heap.size := by omega
  have le_w1_w2 : w1.heap.size ≤ w2.heap.size := by omega
  try have lt_w1_w2 : w1.heap.size < w2.heap.size := by omega
  go_wp2_with fail
  go_ret
  exact ⟨rfl, by repeat (first | assumption | exact Below.refl _ _ | (with_reducible refine Below.drew ?_) | (with_reducible refine below_drewN' ?_ _) | (with_reducible refine below_al ?_) | ((with_reducible refine below_set ?_ ?_); rotate_left; (simp; omega)))⟩
set_option maxHeartbeats 1000000 in
theorem civilSpans_feb (y m d x k : Int) (hk : x % 401 = k) (x0 : 0 ≤ x) (x1 : x ≤ 65535) (k0 : 0 ≤ k) (k1 : k ≤ 400) (h : Cal.mayB y m d = true) (hm : (m == 2) = true) (hd : (d == 29) = true) (w : World) (hL : Laid w) : Calls Tryd.prog 12 #[.agg #[.int .i64 y, .int .i64 m, .int .i64 d], .int .u16 x] w fun e w' => e = .returned (.bool true) ∧ Below w.heap.size w w' := by
  have hB : Below w.heap.size w w := Below.refl _ _
  go_enter Tryd.func12, Tryd.ntmps12
  go_wp2_with fail
  refine (shown04_c _ (hL.below (by repeat (first | assumption | exact Below.refl _ _ | (with_reducible refine Below.drew ?_) | (with_reducible refine below_drewN' ?_ _) | (with_reducible refine below_al ?_) | ((with_reducible refine below_set ?_ ?_); rotate_left; (simp; omega)))))).mono ?_; rintro e w1 ⟨rfl, hb1⟩
  have hz1 := hb1.size; (try simp at hz1); obtain ⟨hc1, hf1⟩ := bcell hb1; have hB1 := below_step (w := w) hb1 (by repeat (first | assumption | exact Below.refl _ _ | (with_reducible refine Below.drew ?_) | (with_reducible refine below_drewN' ?_ _) | (with_reducible refine below_al ?_) | ((with_reducible refine below_set ?_ ?_); rotate_left; (simp; omega))))
  have le_w_w1 : w.heap.size ≤ w1.heap.size := by omega
  try have lt_w_w1 : w.heap.size < w1.heap.size := by omega
  go_wp2_with fail
  refine (rmay_c _ _ _ _).mono ?_; rintro e w2 ⟨rfl, hb2⟩
  have hz2 := hb2.size; (try simp at hz2); obtain ⟨hc2, hf2⟩ := bcell hb2; have hB2 := below_step (w := w) hb2 (by repeat (first | assumption | exact Below.refl _ _ | (with_reducible refine Below.drew ?_) | (with_reducible refine below_drewN' ?_ _) | (with_reducible refine below_al ?_) | ((with_reducible refine below_set ?_ ?_); rotate_left; (simp; omega))))
  have le_w_w2 : w.heap.size ≤ w2.heap.size := by omega
  try have lt_w_w2 : w.heap.size < w2.heap.size := by omega
  have le_w1_w2 : w1.heap.size ≤ w2.heap.size := by omega
  try have lt_w1_w2 : w1.heap.size < w2.heap.size := by omega
  go_wp2_with fail
  go_ret
  exact ⟨rfl, by repeat (first | assumption | exact Below.refl _ _ | (with_reducible refine Below.drew ?_) | (with_reducible refine below_drewN' ?_ _) | (with_reducible refine below_al ?_) | ((with_reducible refine below_set ?_ ?_); rotate_left; (simp; omega)))⟩
set_option maxHeartbeats 1000000 in
theorem civilSpans_far2 (y m d x k : Int) (hk : x % 401 = k) (x0 : 0 ≤ x) (x1 : x ≤ 65535) (k0 : 0 ≤ k) (k1 : k ≤ 400) (h : Cal.mayB y m d = true) (hm : (m == 2) = false) (g : 9999 < y + k) (w : World) (hL : Laid w) : Calls Tryd.prog 12 #[.agg #[.int .i64 y, .int .i64 m, .int .i64 d], .int .u16 x] w fun e w' => e = .returned (.bool true) ∧ Below w.heap.size w w' := by
  have y1 := ((Cal.mayB_iff y m d).1 h).1
  have y2 := ((Cal.mayB_iff y m d).1 h).2.1
  have hB : Below w.heap.size w w := Below.refl _ _
  go_enter Tryd.func12, Tryd.ntmps12
  go_wp2_with fail
  refine (shown04_c _ (hL.below (by repeat (first | assumption | exact Below.refl _ _ | (with_reducible refine Below.drew ?_) | (with_reducible refine below_drewN' ?_ _) | (with_reducible refine below_al ?_) | ((with_reducible refine below_set ?_ ?_); rotate_left; (simp; omega)))))).mono ?_; rintro e w1 ⟨rfl, hb1⟩
  have hz1 := hb1.size; (try simp at hz1); obtain ⟨hc1, hf1⟩ := bcell hb1; have hB1 := below_step (w := w) hb1 (by repeat (first | assumption | exact Below.refl _ _ | (with_reducible refine Below.drew ?_) | (with_reducible refine below_drewN' ?_ _) | (with_reducible refine below_al ?_) | ((with_reducible refine below_set ?_ ?_); rotate_left; (simp; omega))))
  have le_w_w1 : w.heap.size ≤ w1.heap.size := by omega
  try have lt_w_w1 : w.heap.size < w1.heap.size := by omega
  go_wp2_with fail
  refine (rmay_c _ _ _ _).mono ?_; rintro e w2 ⟨rfl, hb2⟩
  have hz2 := hb2.size; (try simp at hz2); obtain ⟨hc2, hf2⟩ := bcell hb2; have hB2 := below_step (w := w) hb2 (by repeat (first | assumption | exact Below.refl _ _ | (with_reducible refine Below.drew ?_) | (with_reducible refine below_drewN' ?_ _) | (with_reducible refine below_al ?_) | ((with_reducible refine below_set ?_ ?_); rotate_left; (simp; omega))))
  have le_w_w2 : w.heap.size ≤ w2.heap.size := by omega
  try have lt_w_w2 : w.heap.size < w2.heap.size := by omega
  have le_w1_w2 : w1.heap.size ≤ w2.heap.size := by omega
  try have lt_w1_w2 : w1.heap.size < w2.heap.size := by omega
  go_wp2_with fail
  go_ret
  exact ⟨rfl, by repeat (first | assumption | exact Below.refl _ _ | (with_reducible refine Below.drew ?_) | (with_reducible refine below_drewN' ?_ _) | (with_reducible refine below_al ?_) | ((with_reducible refine below_set ?_ ?_); rotate_left; (simp; omega)))⟩
set_option maxHeartbeats 1000000 in
theorem civilSpans_far29 (y m d x k : Int) (hk : x % 401 = k) (x0 : 0 ≤ x) (x1 : x ≤ 65535) (k0 : 0 ≤ k) (k1 : k ≤ 400) (h : Cal.mayB y m d = true) (hm : (m == 2) = true) (hd : (d == 29) = false) (g : 9999 < y + k) (w : World) (hL : Laid w) : Calls Tryd.prog 12 #[.agg #[.int .i64 y, .int .i64 m, .int .i64 d], .int .u16 x] w fun e w' => e = .returned (.bool true) ∧ Below w.heap.size w w' := by
  have y1 := ((Cal.mayB_iff y m d).1 h).1
  have y2 := ((Cal.mayB_iff y m d).1 h).2.1
  have hB : Below w.heap.size w w := Below.refl _ _
  go_enter Tryd.func12, Tryd.ntmps12
  go_wp2_with fail
  refine (shown04_c _ (hL.below (by repeat (first | assumption | exact Below.refl _ _ | (with_reducible refine Below.drew ?_) | (with_reducible refine below_drewN' ?_ _) | (with_reducible refine below_al ?_) | ((with_reducible refine below_set ?_ ?_); rotate_left; (simp; omega)))))).mono ?_; rintro e w1 ⟨rfl, hb1⟩
  have hz1 := hb1.size; (try simp at hz1); obtain ⟨hc1, hf1⟩ := bcell hb1; have hB1 := below_step (w := w) hb1 (by repeat (first | assumption | exact Below.refl _ _ | (with_reducible refine Below.drew ?_) | (with_reducible refine below_drewN' ?_ _) | (with_reducible refine below_al ?_) | ((with_reducible refine below_set ?_ ?_); rotate_left; (simp; omega))))
  have le_w_w1 : w.heap.size ≤ w1.heap.size := by omega
  try have lt_w_w1 : w.heap.size < w1.heap.size := by omega
  go_wp2_with fail
  refine (rmay_c _ _ _ _).mono ?_; rintro e w2 ⟨rfl, hb2⟩
  have hz2 := hb2.size; (try simp at hz2); obtain ⟨hc2, hf2⟩ := bcell hb2; have hB2 := below_step (w := w) hb2 (by repeat (first | assumption | exact Below.refl _ _ | (with_reducible refine Below.drew ?_) | (with_reducible refine below_drewN' ?_ _) | (with_reducible refine below_al ?_) | ((with_reducible refine below_set ?_ ?_); rotate_left; (simp; omega))))
  have le_w_w2 : w.heap.size ≤ w2.heap.size := by omega
  try have lt_w_w2 : w.heap.size < w2.heap.size := by omega
  have le_w1_w2 : w1.heap.size ≤ w2.heap.size := by omega
  try have lt_w1_w2 : w1.heap.size < w2.heap.size := by omega
  go_wp2_with fail
  go_ret
  exact ⟨rfl, by repeat (first | assumption | exact Below.refl _ _ | (with_reducible refine Below.drew ?_) | (with_reducible refine below_drewN' ?_ _) | (with_reducible refine below_al ?_) | ((with_reducible refine below_set ?_ ?_); rotate_left; (simp; omega)))⟩
set_option maxHeartbeats 1000000 in
theorem civilSpans_lo2 (y m d x k : Int) (hk : x % 401 = k) (x0 : 0 ≤ x) (x1 : x ≤ 65535) (k0 : 0 ≤ k) (k1 : k ≤ 400) (h : Cal.mayB y m d = true) (hm : (m == 2) = true) (hd : (d == 29) = false) (g : y + k ≤ 9999) (ml : m ≤ 2) (w : World) (hL : Laid w) : Calls Tryd.prog 12 #[.agg #[.int .i64 y, .int .i64 m, .int .i64 d], .int .u16 x] w fun e w' => e = .returned (.bool true) ∧ Below w.heap.size w w' := by
  have hmd : ¬ (m = 2 ∧ d = 29) := fun c => absurd c.2 (by simpa using hd)
  obtain ⟨y1, y2, d1, d2⟩ := (Cal.mayB_iff y m d).1 h
  have g1 : Cal.mayB (y + k) m d = true := (Cal.mayB_iff _ _ _).2 ⟨by omega, by omega, d1, span_len hmd d2 d1⟩
  obtain ⟨p1, p2⟩ := (Cal.day_mk h).bd
  obtain ⟨q1, q2⟩ := (Cal.day_mk g1).bd
  obtain ⟨m1, m2⟩ := Cal.len_in (y := y) (m := m) (by omega)
  clear d2 hmd
  have HN := Lib.hid (show Cal.num (y + k) m d - Cal.num y m d = Cal.dby (y + k) - Cal.dby y by have := cum_lo y (y + k) m ml; unfold Cal.num; omega)
  have hB : Below w.heap.size w w := Below.refl _ _
  go_enter Tryd.func12, Tryd.ntmps12
  go_wp2_with fail
  refine (shown04_c _ (hL.below (by repeat (first | assumption | exact Below.refl _ _ | (with_reducible refine Below.drew ?_) | (with_reducible refine below_drewN' ?_ _) | (with_reducible refine below_al ?_) | ((with_reducible refine below_set ?_ ?_); rotate_left; (simp; omega)))))).mono ?_; rintro e w1 ⟨rfl, hb1⟩
  have hz1 := hb1.size; (try simp at hz1); obtain ⟨hc1, hf1⟩ := bcell hb1; have hB1 := below_step (w := w) hb1 (by repeat (first | assumption | exact Below.refl _ _ | (with_reducible refine Below.drew ?_) | (with_reducible refine below_drewN' ?_ _) | (with_reducible refine below_al ?_) | ((with_reducible refine below_set ?_ ?_); rotate_left; (simp; omega))))
  have le_w_w1 : w.heap.size ≤ w1.heap.size := by omega
  try have lt_w_w1 : w.heap.size < w1.heap.size := by omega
  go_wp2_with fail
  refine (rmay_c _ _ _ _).mono ?_; rintro e w2 ⟨rfl, hb2⟩
  have hz2 := hb2.size; (try simp at hz2); obtain ⟨hc2, hf2⟩ := bcell hb2; have hB2 := below_step (w := w) hb2 (by repeat (first | assumption | exact Below.refl _ _ | (with_reducible refine Below.drew ?_) | (with_reducible refine below_drewN' ?_ _) | (with_reducible refine below_al ?_) | ((with_reducible refine below_set ?_ ?_); rotate_left; (simp; omega))))
  have le_w_w2 : w.heap.size ≤ w2.heap.size := by omega
  try have lt_w_w2 : w.heap.size < w2.heap.size := by omega
  have le_w1_w2 : w1.heap.size ≤ w2.heap.size := by omega
  try have lt_w1_w2 : w1.heap.size < w2.heap.size := by omega
  go_wp2_with fail
  refine (number_yes _ _ _ _ (hL.below (by repeat (first | assumption | exact Below.refl _ _ | (with_reducible refine Below.drew ?_) | (with_reducible refine below_drewN' ?_ _) | (with_reducible refine below_al ?_) | ((with_reducible refine below_set ?_ ?_); rotate_left; (simp; omega))))) (by assumption)).mono ?_; rintro e w3 ⟨rfl, hb3⟩
  have hz3 := hb3.size; (try simp at hz3); obtain ⟨hc3, hf3⟩ := bcell hb3; have hB3 := below_step (w := w) hb3 (by repeat (first | assumption | exact Below.refl _ _ | (with_reducible refine Below.drew ?_) | (with_reducible refine below_drewN' ?_ _) | (with_reducible refine below_al ?_) | ((with_reducible refine below_set ?_ ?_); rotate_left; (simp; omega))))
  have le_w_w3 : w.heap.size ≤ w3.heap.size := by omega
  try have lt_w_w3 : w.heap.size < w3.heap.size := by omega
  have le_w1_w3 : w1.heap.size ≤ w3.heap.size := by omega
  try have lt_w1_w3 : w1.heap.size < w3.heap.size := by omega
  have le_w2_w3 : w2.heap.size ≤ w3.heap.size := by omega
  try have lt_w2_w3 : w2.heap.size < w3.heap.size := by omega
  go_wp2_with fail
  refine (number_yes _ _ _ _ (hL.below (by repeat (first | assumption | exact Below.refl _ _ | (with_reducible refine Below.drew ?_) | (with_reducible refine below_drewN' ?_ _) | (with_reducible refine below_al ?_) | ((with_reducible refine below_set ?_ ?_); rotate_left; (simp; omega))))) (by assumption)).mono ?_; rintro e w4 ⟨rfl, hb4⟩
  have hz4 := hb4.size; (try simp at hz4); obtain ⟨hc4, hf4⟩ := bcell hb4; have hB4 := below_step (w := w) hb4 (by repeat (first | assumption | exact Below.refl _ _ | (with_reducible refine Below.drew ?_) | (with_reducible refine below_drewN' ?_ _) | (with_reducible refine below_al ?_) | ((with_reducible refine below_set ?_ ?_); rotate_left; (simp; omega))))
  have le_w_w4 : w.heap.size ≤ w4.heap.size := by omega
  try have lt_w_w4 : w.heap.size < w4.heap.size := by omega
  have le_w1_w4 : w1.heap.size ≤ w4.heap.size := by omega
  try have lt_w1_w4 : w1.heap.size < w4.heap.size := by omega
  have le_w2_w4 : w2.heap.size ≤ w4.heap.size := by omega
  try have lt_w2_w4 : w2.heap.size < w4.heap.size := by omega
  have le_w3_w4 : w3.heap.size ≤ w4.heap.size := by omega
  try have lt_w3_w4 : w3.heap.size < w4.heap.size := by omega
  go_wp2_with fail
  clear hk x0 x1 hm hd
  go_loop [11, 12] (fun l z => ∃ t s : Int, y ≤ t ∧ t ≤ y + k + 1 ∧ z = .int .i64 t ∧ l = .int .i64 s ∧ 0 ≤ s ∧ s ≤ 500 ∧ Hid ((t ≤ y + k → s = Cal.dby t - Cal.dby y - 365 * (t - y)) ∧ (t = y + k + 1 → s = Cal.dby (y + k) - Cal.dby y - 365 * k))) (fun _ z => (y + k + 1 - intOf z).toNat)
  case atStart => exact ⟨y, 0, by omega, by omega, rfl, rfl, by omega, by omega, ⟨fun _ => by omega, fun _ => by omega⟩⟩
  case round =>
    obtain ⟨t, s, t1, t2, rfl, rfl, s1, s2, HR⟩ := hrel
    have HS := Lib.hid (Cal.dby_succ t)
    have HB1 := Lib.hid (dby_span y t t1)
    have HB2 : Hid (y < t → Cal.dby t - Cal.dby (y + 1) ≤ 366 * (t - y - 1)) := fun c => by have := (dby_span (y + 1) t (by omega)).2; omega
    by_cases b0 : y < t
    · by_cases c1 : t < y + k
      · have c2 : t ≤ y + k := by omega
        cases gl : Cal.leapB t
        · have HL := Lib.hid (Cal.leapB_no gl)
          go_wp2_with (go_at_call 25; refine (leap_c _ _).mono ?_; rintro e w' ⟨rfl, rfl⟩)
          go_round
          case rel =>
            have r := HR.out; have s' := HS.out; have l' := HL.out; have b' := HB1.out; have b'' := HB2.out
            exact ⟨_ + 1, _, by omega, by omega, rfl, rfl, by omega, by omega, ⟨fun _ => by omega, fun _ => by omega⟩⟩
          case measure => simp [intOf]; omega
        · have HL := Lib.hid (Cal.leapB_yes gl)
          go_wp2_with (go_at_call 25; refine (leap_c _ _).mono ?_; rintro e w' ⟨rfl, rfl⟩)
          go_round
          case rel =>
            have r := HR.out; have s' := HS.out; have l' := HL.out; have b' := HB1.out; have b'' := HB2.out
            exact ⟨_ + 1, _, by omega, by omega, rfl, rfl, by omega, by omega, ⟨fun _ => by omega, fun _ => by omega⟩⟩
          case measure => simp [intOf]; omega
      · by_cases c2 : t ≤ y + k
        · skip
          cases gl : Cal.leapB t
          · have HL := Lib.hid (Cal.leapB_no gl)
            go_wp2_with (go_at_call 25; refine (leap_c _ _).mono ?_; rintro e w' ⟨rfl, rfl⟩)
            go_round
            case rel =>
              have r := HR.out; have s' := HS.out; have l' := HL.out; have b' := HB1.out; have b'' := HB2.out
              have e : t = y + k := by omega
              subst e
              exact ⟨_ + 1, _, by omega, by omega, rfl, rfl, by omega, by omega, ⟨fun _ => by omega, fun _ => by omega⟩⟩
            case measure => simp [intOf]; omega
          · have HL := Lib.hid (Cal.leapB_yes gl)
            go_wp2_with (go_at_call 25; refine (leap_c _ _).mono ?_; rintro e w' ⟨rfl, rfl⟩)
            go_round
            case rel =>
              have r := HR.out; have s' := HS.out; have l' := HL.out; have b' := HB1.out; have b'' := HB2.out
              have e : t = y + k := by omega
              subst e
              exact ⟨_ + 1, _, by omega, by omega, rfl, rfl, by omega, by omega, ⟨fun _ => by omega, fun _ => by omega⟩⟩
            case measure => simp [intOf]; omega
        · have HF : (Cal.num (y + k) m d - Cal.num y m d == 365 * k + s) = true := by
            have r := HR.out; have n' := HN.out
            have e : t = y + k + 1 := by omega
            subst e
            apply beq_iff_eq.2
            omega
          go_wp2_with fail
          go_ret
          exact ⟨rfl, by repeat (first | assumption | exact Below.refl _ _ | (with_reducible refine Below.drew ?_) | (with_reducible refine below_drewN' ?_ _) | (with_reducible refine below_al ?_) | ((with_reducible refine below_set ?_ ?_); rotate_left; (simp; omega)))⟩
    · obtain rfl : t = y := by omega
      by_cases c1 : t < t + k
      · have c2 : t ≤ t + k := by omega
        cases gl : Cal.leapB t
        · have HL := Lib.hid (Cal.leapB_no gl)
          go_wp2_with (go_at_call 25; refine (leap_c _ _).mono ?_; rintro e w' ⟨rfl, rfl⟩)
          go_round
          case rel =>
            have r := HR.out; have s' := HS.out; have l' := HL.out; have b' := HB1.out; have b'' := HB2.out
            exact ⟨_ + 1, _, by omega, by omega, rfl, rfl, by omega, by omega, ⟨fun _ => by omega, fun _ => by omega⟩⟩
          case measure => simp [intOf]; omega
        · have HL := Lib.hid (Cal.leapB_yes gl)
          go_wp2_with (go_at_call 25; refine (leap_c _ _).mono ?_; rintro e w' ⟨rfl, rfl⟩)
          go_round
          case rel =>
            have r := HR.out; have s' := HS.out; have l' := HL.out; have b' := HB1.out; have b'' := HB2.out
            exact ⟨_ + 1, _, by omega, by omega, rfl, rfl, by omega, by omega, ⟨fun _ => by omega, fun _ => by omega⟩⟩
          case measure => simp [intOf]; omega
      · have c2 : t ≤ t + k := by omega
        have HK0 := Lib.hid (show k = 0 by omega)
        cases gl : Cal.leapB t
        · have HL := Lib.hid (Cal.leapB_no gl)
          go_wp2_with (go_at_call 25; refine (leap_c _ _).mono ?_; rintro e w' ⟨rfl, rfl⟩)
          go_round
          case rel =>
            have r := HR.out; have s' := HS.out; have l' := HL.out; have b' := HB1.out; have b'' := HB2.out
            have k0' := HK0.out; have k1' : Cal.dby (t + k) = Cal.dby t := by rw [k0', Int.add_zero]
            exact ⟨_ + 1, _, by omega, by omega, rfl, rfl, by omega, by omega, ⟨fun _ => by omega, fun _ => by omega⟩⟩
          case measure => simp [intOf]; omega
        · have HL := Lib.hid (Cal.leapB_yes gl)
          go_wp2_with (go_at_call 25; refine (leap_c _ _).mono ?_; rintro e w' ⟨rfl, rfl⟩)
          go_round
          case rel =>
            have r := HR.out; have s' := HS.out; have l' := HL.out; have b' := HB1.out; have b'' := HB2.out
            have k0' := HK0.out; have k1' : Cal.dby (t + k) = Cal.dby t := by rw [k0', Int.add_zero]
            exact ⟨_ + 1, _, by omega, by omega, rfl, rfl, by omega, by omega, ⟨fun _ => by omega, fun _ => by omega⟩⟩
          case measure => simp [intOf]; omega
set_option maxHeartbeats 1000000 in
theorem civilSpans_lo1 (y m d x k : Int) (hk : x % 401 = k) (x0 : 0 ≤ x) (x1 : x ≤ 65535) (k0 : 0 ≤ k) (k1 : k ≤ 400) (h : Cal.mayB y m d = true) (hm : (m == 2) = false) (g : y + k ≤ 9999) (ml : m ≤ 2) (w : World) (hL : Laid w) : Calls Tryd.prog 12 #[.agg #[.int .i64 y, .int .i64 m, .int .i64 d], .int .u16 x] w fun e w' => e = .returned (.bool true) ∧ Below w.heap.size w w' := by
  have hmd : ¬ (m = 2 ∧ d = 29) := fun c => absurd c.1 (by simpa using hm)
  obtain ⟨y1, y2, d1, d2⟩ := (Cal.mayB_iff y m d).1 h
  have g1 : Cal.mayB (y + k) m d = true := (Cal.mayB_iff _ _ _).2 ⟨by omega, by omega, d1, span_len hmd d2 d1⟩
  obtain ⟨p1, p2⟩ := (Cal.day_mk h).bd
  obtain ⟨q1, q2⟩ := (Cal.day_mk g1).bd
  obtain ⟨m1, m2⟩ := Cal.len_in (y := y) (m := m) (by omega)
  clear d2 hmd
  have HN := Lib.hid (show Cal.num (y + k) m d - Cal.num y m d = Cal.dby (y + k) - Cal.dby y by have := cum_lo y (y + k) m ml; unfold Cal.num; omega)
  have hB : Below w.heap.size w w := Below.refl _ _
  go_enter Tryd.func12, Tryd.ntmps12
  go_wp2_with fail
  refine (shown04_c _ (hL.below (by repeat (first | assumption | exact Below.refl _ _ | (with_reducible refine Below.drew ?_) | (with_reducible refine below_drewN' ?_ _) | (with_reducible refine below_al ?_) | ((with_reducible refine below_set ?_ ?_); rotate_left; (simp; omega)))))).mono ?_; rintro e w1 ⟨rfl, hb1⟩
  have hz1 := hb1.size; (try simp at hz1); obtain ⟨hc1, hf1⟩ := bcell hb1; have hB1 := below_step (w := w) hb1 (by repeat (first | assumption | exact Below.refl _ _ | (with_reducible refine Below.drew ?_) | (with_reducible refine below_drewN' ?_ _) | (with_reducible refine below_al ?_) | ((with_reducible refine below_set ?_ ?_); rotate_left; (simp; omega))))
  have le_w_w1 : w.heap.size ≤ w1.heap.size := by omega
  try have lt_w_w1 : w.heap.size < w1.heap.size := by omega
  go_wp2_with fail
  refine (rmay_c _ _ _ _).mono ?_; rintro e w2 ⟨rfl, hb2⟩
  have hz2 := hb2.size; (try simp at hz2); obtain ⟨hc2, hf2⟩ := bcell hb2; have hB2 := below_step (w := w) hb2 (by repeat (first | assumption | exact Below.refl _ _ | (with_reducible refine Below.drew ?_) | (with_reducible refine below_drewN' ?_ _) | (with_reducible refine below_al ?_) | ((with_reducible refine below_set ?_ ?_); rotate_left; (simp; omega))))
  have le_w_w2 : w.heap.size ≤ w2.heap.size := by omega
  try have lt_w_w2 : w.heap.size < w2.heap.size := by omega
  have le_w1_w2 : w1.heap.size ≤ w2.heap.size := by omega
  try have lt_w1_w2 : w1.heap.size < w2.heap.size := by omega
  go_wp2_with fail
  refine (number_yes _ _ _ _ (hL.below (by repeat (first | assumption | exact Below.refl _ _ | (with_reducible refine Below.drew ?_) | (with_reducible refine below_drewN' ?_ _) | (with_reducible refine below_al ?_) | ((with_reducible refine below_set ?_ ?_); rotate_left; (simp; omega))))) (by assumption)).mono ?_; rintro e w3 ⟨rfl, hb3⟩
  have hz3 := hb3.size; (try simp at hz3); obtain ⟨hc3, hf3⟩ := bcell hb3; have hB3 := below_step (w := w) hb3 (by repeat (first | assumption | exact Below.refl _ _ | (with_reducible refine Below.drew ?_) | (with_reducible refine below_drewN' ?_ _) | (with_reducible refine below_al ?_) | ((with_reducible refine below_set ?_ ?_); rotate_left; (simp; omega))))
  have le_w_w3 : w.heap.size ≤ w3.heap.size := by omega
  try have lt_w_w3 : w.heap.size < w3.heap.size := by omega
  have le_w1_w3 : w1.heap.size ≤ w3.heap.size := by omega
  try have lt_w1_w3 : w1.heap.size < w3.heap.size := by omega
  have le_w2_w3 : w2.heap.size ≤ w3.heap.size := by omega
  try have lt_w2_w3 : w2.heap.size < w3.heap.size := by omega
  go_wp2_with fail
  refine (number_yes _ _ _ _ (hL.below (by repeat (first | assumption | exact Below.refl _ _ | (with_reducible refine Below.drew ?_) | (with_reducible refine below_drewN' ?_ _) | (with_reducible refine below_al ?_) | ((with_reducible refine below_set ?_ ?_); rotate_left; (simp; omega))))) (by assumption)).mono ?_; rintro e w4 ⟨rfl, hb4⟩
  have hz4 := hb4.size; (try simp at hz4); obtain ⟨hc4, hf4⟩ := bcell hb4; have hB4 := below_step (w := w) hb4 (by repeat (first | assumption | exact Below.refl _ _ | (with_reducible refine Below.drew ?_) | (with_reducible refine below_drewN' ?_ _) | (with_reducible refine below_al ?_) | ((with_reducible refine below_set ?_ ?_); rotate_left; (simp; omega))))
  have le_w_w4 : w.heap.size ≤ w4.heap.size := by omega
  try have lt_w_w4 : w.heap.size < w4.heap.size := by omega
  have le_w1_w4 : w1.heap.size ≤ w4.heap.size := by omega
  try have lt_w1_w4 : w1.heap.size < w4.heap.size := by omega
  have le_w2_w4 : w2.heap.size ≤ w4.heap.size := by omega
  try have lt_w2_w4 : w2.heap.size < w4.heap.size := by omega
  have le_w3_w4 : w3.heap.size ≤ w4.heap.size := by omega
  try have lt_w3_w4 : w3.heap.size < w4.heap.size := by omega
  go_wp2_with fail
  clear hk x0 x1 hm
  go_loop [11, 12] (fun l z => ∃ t s : Int, y ≤ t ∧ t ≤ y + k + 1 ∧ z = .int .i64 t ∧ l = .int .i64 s ∧ 0 ≤ s ∧ s ≤ 500 ∧ Hid ((t ≤ y + k → s = Cal.dby t - Cal.dby y - 365 * (t - y)) ∧ (t = y + k + 1 → s = Cal.dby (y + k) - Cal.dby y - 365 * k))) (fun _ z => (y + k + 1 - intOf z).toNat)
  case atStart => exact ⟨y, 0, by omega, by omega, rfl, rfl, by omega, by omega, ⟨fun _ => by omega, fun _ => by omega⟩⟩
  case round =>
    obtain ⟨t, s, t1, t2, rfl, rfl, s1, s2, HR⟩ := hrel
    have HS := Lib.hid (Cal.dby_succ t)
    have HB1 := Lib.hid (dby_span y t t1)
    have HB2 : Hid (y < t → Cal.dby t - Cal.dby (y + 1) ≤ 366 * (t - y - 1)) := fun c => by have := (dby_span (y + 1) t (by omega)).2; omega
    by_cases b0 : y < t
    · by_cases c1 : t < y + k
      · have c2 : t ≤ y + k := by omega
        cases gl : Cal.leapB t
        · have HL := Lib.hid (Cal.leapB_no gl)
          go_wp2_with (go_at_call 25; refine (leap_c _ _).mono ?_; rintro e w' ⟨rfl, rfl⟩)
          go_round
          case rel =>
            have r := HR.out; have s' := HS.out; have l' := HL.out; have b' := HB1.out; have b'' := HB2.out
            exact ⟨_ + 1, _, by omega, by omega, rfl, rfl, by omega, by omega, ⟨fun _ => by omega, fun _ => by omega⟩⟩
          case measure => simp [intOf]; omega
        · have HL := Lib.hid (Cal.leapB_yes gl)
          go_wp2_with (go_at_call 25; refine (leap_c _ _).mono ?_; rintro e w' ⟨rfl, rfl⟩)
          go_round
          case rel =>
            have r := HR.out; have s' := HS.out; have l' := HL.out; have b' := HB1.out; have b'' := HB2.out
            exact ⟨_ + 1, _, by omega, by omega, rfl, rfl, by omega, by omega, ⟨fun _ => by omega, fun _ => by omega⟩⟩
          case measure => simp [intOf]; omega
      · by_cases c2 : t ≤ y + k
        · skip
          cases gl : Cal.leapB t
          · have HL := Lib.hid (Cal.leapB_no gl)
            go_wp2_with (go_at_call 25; refine (leap_c _ _).mono ?_; rintro e w' ⟨rfl, rfl⟩)
            go_round
            case rel =>
              have r := HR.out; have s' := HS.out; have l' := HL.out; have b' := HB1.out; have b'' := HB2.out
              have e : t = y + k := by omega
              subst e
              exact ⟨_ + 1, _, by omega, by omega, rfl, rfl, by omega, by omega, ⟨fun _ => by omega, fun _ => by omega⟩⟩
            case measure => simp [intOf]; omega
          · have HL := Lib.hid (Cal.leapB_yes gl)
            go_wp2_with (go_at_call 25; refine (leap_c _ _).mono ?_; rintro e w' ⟨rfl, rfl⟩)
            go_round
            case rel =>
              have r := HR.out; have s' := HS.out; have l' := HL.out; have b' := HB1.out; have b'' := HB2.out
              have e : t = y + k := by omega
              subst e
              exact ⟨_ + 1, _, by omega, by omega, rfl, rfl, by omega, by omega, ⟨fun _ => by omega, fun _ => by omega⟩⟩
            case measure => simp [intOf]; omega
        · have HF : (Cal.num (y + k) m d - Cal.num y m d == 365 * k + s) = true := by
            have r := HR.out; have n' := HN.out
            have e : t = y + k + 1 := by omega
            subst e
            apply beq_iff_eq.2
            omega
          go_wp2_with fail
          go_ret
          exact ⟨rfl, by repeat (first | assumption | exact Below.refl _ _ | (with_reducible refine Below.drew ?_) | (with_reducible refine below_drewN' ?_ _) | (with_reducible refine below_al ?_) | ((with_reducible refine below_set ?_ ?_); rotate_left; (simp; omega)))⟩
    · obtain rfl : t = y := by omega
      by_cases c1 : t < t + k
      · have c2 : t ≤ t + k := by omega
        cases gl : Cal.leapB t
        · have HL := Lib.hid (Cal.leapB_no gl)
          go_wp2_with (go_at_call 25; refine (leap_c _ _).mono ?_; rintro e w' ⟨rfl, rfl⟩)
          go_round
          case rel =>
            have r := HR.out; have s' := HS.out; have l' := HL.out; have b' := HB1.out; have b'' := HB2.out
            exact ⟨_ + 1, _, by omega, by omega, rfl, rfl, by omega, by omega, ⟨fun _ => by omega, fun _ => by omega⟩⟩
          case measure => simp [intOf]; omega
        · have HL := Lib.hid (Cal.leapB_yes gl)
          go_wp2_with (go_at_call 25; refine (leap_c _ _).mono ?_; rintro e w' ⟨rfl, rfl⟩)
          go_round
          case rel =>
            have r := HR.out; have s' := HS.out; have l' := HL.out; have b' := HB1.out; have b'' := HB2.out
            exact ⟨_ + 1, _, by omega, by omega, rfl, rfl, by omega, by omega, ⟨fun _ => by omega, fun _ => by omega⟩⟩
          case measure => simp [intOf]; omega
      · have c2 : t ≤ t + k := by omega
        have HK0 := Lib.hid (show k = 0 by omega)
        cases gl : Cal.leapB t
        · have HL := Lib.hid (Cal.leapB_no gl)
          go_wp2_with (go_at_call 25; refine (leap_c _ _).mono ?_; rintro e w' ⟨rfl, rfl⟩)
          go_round
          case rel =>
            have r := HR.out; have s' := HS.out; have l' := HL.out; have b' := HB1.out; have b'' := HB2.out
            have k0' := HK0.out; have k1' : Cal.dby (t + k) = Cal.dby t := by rw [k0', Int.add_zero]
            exact ⟨_ + 1, _, by omega, by omega, rfl, rfl, by omega, by omega, ⟨fun _ => by omega, fun _ => by omega⟩⟩
          case measure => simp [intOf]; omega
        · have HL := Lib.hid (Cal.leapB_yes gl)
          go_wp2_with (go_at_call 25; refine (leap_c _ _).mono ?_; rintro e w' ⟨rfl, rfl⟩)
          go_round
          case rel =>
            have r := HR.out; have s' := HS.out; have l' := HL.out; have b' := HB1.out; have b'' := HB2.out
            have k0' := HK0.out; have k1' : Cal.dby (t + k) = Cal.dby t := by rw [k0', Int.add_zero]
            exact ⟨_ + 1, _, by omega, by omega, rfl, rfl, by omega, by omega, ⟨fun _ => by omega, fun _ => by omega⟩⟩
          case measure => simp [intOf]; omega
set_option maxHeartbeats 1000000 in
theorem civilSpans_hi (y m d x k : Int) (hk : x % 401 = k) (x0 : 0 ≤ x) (x1 : x ≤ 65535) (k0 : 0 ≤ k) (k1 : k ≤ 400) (h : Cal.mayB y m d = true) (hm : (m == 2) = false) (g : y + k ≤ 9999) (ml : 2 < m) (w : World) (hL : Laid w) : Calls Tryd.prog 12 #[.agg #[.int .i64 y, .int .i64 m, .int .i64 d], .int .u16 x] w fun e w' => e = .returned (.bool true) ∧ Below w.heap.size w w' := by
  have hmd : ¬ (m = 2 ∧ d = 29) := fun c => absurd c.1 (by simpa using hm)
  obtain ⟨y1, y2, d1, d2⟩ := (Cal.mayB_iff y m d).1 h
  have g1 : Cal.mayB (y + k) m d = true := (Cal.mayB_iff _ _ _).2 ⟨by omega, by omega, d1, span_len hmd d2 d1⟩
  obtain ⟨p1, p2⟩ := (Cal.day_mk h).bd
  obtain ⟨q1, q2⟩ := (Cal.day_mk g1).bd
  obtain ⟨m1, m2⟩ := Cal.len_in (y := y) (m := m) (by omega)
  clear d2 hmd
  have HN := Lib.hid (show Cal.num (y + k) m d - Cal.num y m d = Cal.dby (y + k) - Cal.dby y + Cal.lp (y + k) - Cal.lp y by have := cum_hi y (y + k) m ml; unfold Cal.num; omega)
  have HS0 := Lib.hid (Cal.dby_succ y)
  have HSk := Lib.hid (Cal.dby_succ (y + k))
  have hl0 := Cal.lp_01 y
  have hB : Below w.heap.size w w := Below.refl _ _
  go_enter Tryd.func12, Tryd.ntmps12
  go_wp2_with fail
  refine (shown04_c _ (hL.below (by repeat (first | assumption | exact Below.refl _ _ | (with_reducible refine Below.drew ?_) | (with_reducible refine below_drewN' ?_ _) | (with_reducible refine below_al ?_) | ((with_reducible refine below_set ?_ ?_); rotate_left; (simp; omega)))))).mono ?_; rintro e w1 ⟨rfl, hb1⟩
  have hz1 := hb1.size; (try simp at hz1); obtain ⟨hc1, hf1⟩ := bcell hb1; have hB1 := below_step (w := w) hb1 (by repeat (first | assumption | exact Below.refl _ _ | (with_reducible refine Below.drew ?_) | (with_reducible refine below_drewN' ?_ _) | (with_reducible refine below_al ?_) | ((with_reducible refine below_set ?_ ?_); rotate_left; (simp; omega))))
  have le_w_w1 : w.heap.size ≤ w1.heap.size := by omega
  try have lt_w_w1 : w.heap.size < w1.heap.size := by omega
  go_wp2_with fail
  refine (rmay_c _ _ _ _).mono ?_; rintro e w2 ⟨rfl, hb2⟩
  have hz2 := hb2.size; (try simp at hz2); obtain ⟨hc2, hf2⟩ := bcell hb2; have hB2 := below_step (w := w) hb2 (by repeat (first | assumption | exact Below.refl _ _ | (with_reducible refine Below.drew ?_) | (with_reducible refine below_drewN' ?_ _) | (with_reducible refine below_al ?_) | ((with_reducible refine below_set ?_ ?_); rotate_left; (simp; omega))))
  have le_w_w2 : w.heap.size ≤ w2.heap.size := by omega
  try have lt_w_w2 : w.heap.size < w2.heap.size := by omega
  have le_w1_w2 : w1.heap.size ≤ w2.heap.size := by omega
  try have lt_w1_w2 : w1.heap.size < w2.heap.size := by omega
  go_wp2_with fail
  refine (number_yes _ _ _ _ (hL.below (by repeat (first | assumption | exact Below.refl _ _ | (with_reducible refine Below.drew ?_) | (with_reducible refine below_drewN' ?_ _) | (with_reducible refine below_al ?_) | ((with_reducible refine below_set ?_ ?_); rotate_left; (simp; omega))))) (by assumption)).mono ?_; rintro e w3 ⟨rfl, hb3⟩
  have hz3 := hb3.size; (try simp at hz3); obtain ⟨hc3, hf3⟩ := bcell hb3; have hB3 := below_step (w := w) hb3 (by repeat (first | assumption | exact Below.refl _ _ | (with_reducible refine Below.drew ?_) | (with_reducible refine below_drewN' ?_ _) | (with_reducible refine below_al ?_) | ((with_reducible refine below_set ?_ ?_); rotate_left; (simp; omega))))
  have le_w_w3 : w.heap.size ≤ w3.heap.size := by omega
  try have lt_w_w3 : w.heap.size < w3.heap.size := by omega
  have le_w1_w3 : w1.heap.size ≤ w3.heap.size := by omega
  try have lt_w1_w3 : w1.heap.size < w3.heap.size := by omega
  have le_w2_w3 : w2.heap.size ≤ w3.heap.size := by omega
  try have lt_w2_w3 : w2.heap.size < w3.heap.size := by omega
  go_wp2_with fail
  refine (number_yes _ _ _ _ (hL.below (by repeat (first | assumption | exact Below.refl _ _ | (with_reducible refine Below.drew ?_) | (with_reducible refine below_drewN' ?_ _) | (with_reducible refine below_al ?_) | ((with_reducible refine below_set ?_ ?_); rotate_left; (simp; omega))))) (by assumption)).mono ?_; rintro e w4 ⟨rfl, hb4⟩
  have hz4 := hb4.size; (try simp at hz4); obtain ⟨hc4, hf4⟩ := bcell hb4; have hB4 := below_step (w := w) hb4 (by repeat (first | assumption | exact Below.refl _ _ | (with_reducible refine Below.drew ?_) | (with_reducible refine below_drewN' ?_ _) | (with_reducible refine below_al ?_) | ((with_reducible refine below_set ?_ ?_); rotate_left; (simp; omega))))
  have le_w_w4 : w.heap.size ≤ w4.heap.size := by omega
  try have lt_w_w4 : w.heap.size < w4.heap.size := by omega
  have le_w1_w4 : w1.heap.size ≤ w4.heap.size := by omega
  try have lt_w1_w4 : w1.heap.size < w4.heap.size := by omega
  have le_w2_w4 : w2.heap.size ≤ w4.heap.size := by omega
  try have lt_w2_w4 : w2.heap.size < w4.heap.size := by omega
  have le_w3_w4 : w3.heap.size ≤ w4.heap.size := by omega
  try have lt_w3_w4 : w3.heap.size < w4.heap.size := by omega
  go_wp2_with fail
  clear hk x0 x1 hm
  go_loop [11, 12] (fun l z => ∃ t s : Int, y ≤ t ∧ t ≤ y + k + 1 ∧ z = .int .i64 t ∧ l = .int .i64 s ∧ 0 ≤ s ∧ s ≤ 500 ∧ Hid ((t ≤ y → s = 0) ∧ (y < t → s = Cal.dby t - Cal.dby (y + 1) - 365 * (t - y - 1)))) (fun _ z => (y + k + 1 - intOf z).toNat)
  case atStart => exact ⟨y, 0, by omega, by omega, rfl, rfl, by omega, by omega, ⟨fun _ => by omega, fun _ => by omega⟩⟩
  case round =>
    obtain ⟨t, s, t1, t2, rfl, rfl, s1, s2, HR⟩ := hrel
    have HS := Lib.hid (Cal.dby_succ t)
    have HB1 := Lib.hid (dby_span y t t1)
    have HB2 : Hid (y < t → Cal.dby t - Cal.dby (y + 1) ≤ 366 * (t - y - 1)) := fun c => by have := (dby_span (y + 1) t (by omega)).2; omega
    by_cases b0 : y < t
    · by_cases c1 : t < y + k
      · have c2 : t ≤ y + k := by omega
        cases gl : Cal.leapB t
        · have HL := Lib.hid (Cal.leapB_no gl)
          go_wp2_with (go_at_call 25; refine (leap_c _ _).mono ?_; rintro e w' ⟨rfl, rfl⟩)
          go_round
          case rel =>
            have r := HR.out; have s' := HS.out; have l' := HL.out; have b' := HB1.out; have b'' := HB2.out
            exact ⟨_ + 1, _, by omega, by omega, rfl, rfl, by omega, by omega, ⟨fun _ => by omega, fun _ => by omega⟩⟩
          case measure => simp [intOf]; omega
        · have HL := Lib.hid (Cal.leapB_yes gl)
          go_wp2_with (go_at_call 25; refine (leap_c _ _).mono ?_; rintro e w' ⟨rfl, rfl⟩)
          go_round
          case rel =>
            have r := HR.out; have s' := HS.out; have l' := HL.out; have b' := HB1.out; have b'' := HB2.out
            exact ⟨_ + 1, _, by omega, by omega, rfl, rfl, by omega, by omega, ⟨fun _ => by omega, fun _ => by omega⟩⟩
          case measure => simp [intOf]; omega
      · by_cases c2 : t ≤ y + k
        · skip
          cases gl : Cal.leapB t
          · have HL := Lib.hid (Cal.leapB_no gl)
            go_wp2_with (go_at_call 25; refine (leap_c _ _).mono ?_; rintro e w' ⟨rfl, rfl⟩)
            go_round
            case rel =>
              have r := HR.out; have s' := HS.out; have l' := HL.out; have b' := HB1.out; have b'' := HB2.out
              have e : t = y + k := by omega
              subst e
              exact ⟨_ + 1, _, by omega, by omega, rfl, rfl, by omega, by omega, ⟨fun _ => by omega, fun _ => by omega⟩⟩
            case measure => simp [intOf]; omega
          · have HL := Lib.hid (Cal.leapB_yes gl)
            go_wp2_with (go_at_call 25; refine (leap_c _ _).mono ?_; rintro e w' ⟨rfl, rfl⟩)
            go_round
            case rel =>
              have r := HR.out; have s' := HS.out; have l' := HL.out; have b' := HB1.out; have b'' := HB2.out
              have e : t = y + k := by omega
              subst e
              exact ⟨_ + 1, _, by omega, by omega, rfl, rfl, by omega, by omega, ⟨fun _ => by omega, fun _ => by omega⟩⟩
            case measure => simp [intOf]; omega
        · have HF : (Cal.num (y + k) m d - Cal.num y m d == 365 * k + s) = true := by
            have r := HR.out; have n' := HN.out; have a1 := HS0.out; have a2 := HSk.out
            have e : t = y + k + 1 := by omega
            subst e
            apply beq_iff_eq.2
            omega
          go_wp2_with fail
          go_ret
          exact ⟨rfl, by repeat (first | assumption | exact Below.refl _ _ | (with_reducible refine Below.drew ?_) | (with_reducible refine below_drewN' ?_ _) | (with_reducible refine below_al ?_) | ((with_reducible refine below_set ?_ ?_); rotate_left; (simp; omega)))⟩
    · obtain rfl : t = y := by omega
      by_cases c1 : t < t + k
      · have c2 : t ≤ t + k := by omega
        cases gl : Cal.leapB t
        · have HL := Lib.hid (Cal.leapB_no gl)
          go_wp2_with (go_at_call 25; refine (leap_c _ _).mono ?_; rintro e w' ⟨rfl, rfl⟩)
          go_round
          case rel =>
            have r := HR.out; have s' := HS.out; have l' := HL.out; have b' := HB1.out; have b'' := HB2.out
            exact ⟨_ + 1, _, by omega, by omega, rfl, rfl, by omega, by omega, ⟨fun _ => by omega, fun _ => by omega⟩⟩
          case measure => simp [intOf]; omega
        · have HL := Lib.hid (Cal.leapB_yes gl)
          go_wp2_with (go_at_call 25; refine (leap_c _ _).mono ?_; rintro e w' ⟨rfl, rfl⟩)
          go_round
          case rel =>
            have r := HR.out; have s' := HS.out; have l' := HL.out; have b' := HB1.out; have b'' := HB2.out
            exact ⟨_ + 1, _, by omega, by omega, rfl, rfl, by omega, by omega, ⟨fun _ => by omega, fun _ => by omega⟩⟩
          case measure => simp [intOf]; omega
      · have c2 : t ≤ t + k := by omega
        have HK0 := Lib.hid (show k = 0 by omega)
        cases gl : Cal.leapB t
        · have HL := Lib.hid (Cal.leapB_no gl)
          go_wp2_with (go_at_call 25; refine (leap_c _ _).mono ?_; rintro e w' ⟨rfl, rfl⟩)
          go_round
          case rel =>
            have r := HR.out; have s' := HS.out; have l' := HL.out; have b' := HB1.out; have b'' := HB2.out
            have k0' := HK0.out; have k1' : Cal.dby (t + k) = Cal.dby t := by rw [k0', Int.add_zero]
            exact ⟨_ + 1, _, by omega, by omega, rfl, rfl, by omega, by omega, ⟨fun _ => by omega, fun _ => by omega⟩⟩
          case measure => simp [intOf]; omega
        · have HL := Lib.hid (Cal.leapB_yes gl)
          go_wp2_with (go_at_call 25; refine (leap_c _ _).mono ?_; rintro e w' ⟨rfl, rfl⟩)
          go_round
          case rel =>
            have r := HR.out; have s' := HS.out; have l' := HL.out; have b' := HB1.out; have b'' := HB2.out
            have k0' := HK0.out; have k1' : Cal.dby (t + k) = Cal.dby t := by rw [k0', Int.add_zero]
            exact ⟨_ + 1, _, by omega, by omega, rfl, rfl, by omega, by omega, ⟨fun _ => by omega, fun _ => by omega⟩⟩
          case measure => simp [intOf]; omega
theorem civilSpans_walk (y m d x : Int) (x0 : 0 ≤ x) (x1 : x ≤ 65535) (w : World) (hL : Laid w) : Calls Tryd.prog 12 #[.agg #[.int .i64 y, .int .i64 m, .int .i64 d], .int .u16 x] w fun e w' => e = .returned (.bool true) ∧ Below w.heap.size w w' := by
  obtain ⟨k, hk⟩ : ∃ k, x % 401 = k := ⟨_, rfl⟩
  have k0 : 0 ≤ k := by omega
  have k1 : k ≤ 400 := by omega
  cases h : Cal.mayB y m d
  · exact civilSpans_no y m d x k hk x0 x1 k0 k1 h w hL
  by_cases g : y + k ≤ 9999
  · cases hm : m == 2
    · by_cases ml : m ≤ 2
      · exact civilSpans_lo1 y m d x k hk x0 x1 k0 k1 h hm g ml w hL
      · exact civilSpans_hi y m d x k hk x0 x1 k0 k1 h hm g (by omega) w hL
    · cases hd : d == 29
      · have : m = 2 := by simpa using hm
        exact civilSpans_lo2 y m d x k hk x0 x1 k0 k1 h hm hd g (by omega) w hL
      · exact civilSpans_feb y m d x k hk x0 x1 k0 k1 h hm hd w hL
  · cases hm : m == 2
    · exact civilSpans_far2 y m d x k hk x0 x1 k0 k1 h hm (by omega) w hL
    · cases hd : d == 29
      · exact civilSpans_far29 y m d x k hk x0 x1 k0 k1 h hm hd (by omega) w hL
      · exact civilSpans_feb y m d x k hk x0 x1 k0 k1 h hm hd w hL
end Go.Proofs.YtfcapdifenbcnaaDoor
