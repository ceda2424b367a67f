/- The contracts of the layer of days, second part: the days ahead of a year, which days may be, and the days' numbers: the program's and the document's. Conditions: the table of months' lengths lies as the program's text lays it. -/
import Derived.Test.YtjcjchapfiokeaaDoorCivA
namespace Go.Proofs.YtjcjchapfiokeaaDoor
open Go.RowKit

theorem ahead_start (y : Int) : Cal.dby (400 * ((y - 1) / 400) + 1) = 146097 * ((y - 1) / 400) := by
  have := Cal.dby_era 1 ((y - 1) / 400)
  rw [Cal.dby_one] at this
  rw [show 400 * ((y - 1) / 400) + 1 = 1 + 400 * ((y - 1) / 400) from by omega, this]; omega
theorem ahead_c (y : Int) (h1 : 1 ≤ y) (h2 : y ≤ 10000) (w : World) : Calls Tryd.prog 55 #[.int .i64 y] w fun e w' => e = .returned (.int .i64 (Cal.dby y)) ∧ w = w' := by
  have hs := ahead_start y
  have H := Lib.hid hs; clear hs
  go_enter Tryd.func55, Tryd.ntmps55
  go_wp2
  go_loop [4, 5] (fun n k => ∃ a : Int, 1 ≤ a ∧ a ≤ y ∧ k = .int .i64 a ∧ n = .int .i64 (Cal.dby a)) (fun _ k => (y - intOf k).toNat)
  case atStart => exact ⟨_, by omega, by omega, rfl, by rw [H.out]⟩
  case round =>
    obtain ⟨a, ha1, ha2, rfl, rfl⟩ := hrel
    have hb := Cal.dby_bd a ha1 (by omega)
    obtain ⟨hb1, hb2⟩ := hb
    by_cases hlt : a < y
    · have HS := Lib.hid (Cal.dby_succ a)
      go_wp2_with (go_at_call 28; refine (rleap_c _ _).mono ?_; rintro e w' ⟨rfl, rfl⟩)
      · have g : Cal.leapB a = true := by assumption
        go_round
        case rel => exact ⟨a + 1, by omega, by omega, rfl, by rw [HS.out, Cal.leapB_yes g]⟩
        case measure => simp [intOf]; omega
      · have g : Cal.leapB a = false := by assumption
        go_round
        case rel => exact ⟨a + 1, by omega, by omega, rfl, by rw [HS.out, Cal.leapB_no g, Int.add_zero]⟩
        case measure => simp [intOf]; omega
    · go_wp2
      go_ret
      exact ⟨ret_int (by rw [show y = a from by omega]), rfl⟩

theorem below_drewN' {B : Nat} {a w : World} (h : Below B a w) (n : Nat) : Below B a (w.drewN n) := ⟨h.os, h.tape, h.output, h.size, h.block⟩
theorem below_one (w : World) (o : Obj) : Below w.heap.size w (w.alloc o) := (Below.refl _ _).alloc (Nat.le_refl _) o
theorem mayB_ff {y m d : Int} (h : ¬ (1 ≤ y ∧ y ≤ 9999 ∧ 1 ≤ d ∧ d ≤ Cal.len y m)) : Cal.mayB y m d = false := decide_eq_false h
theorem mayB_len {y m d : Int} (h1 : 1 ≤ y) (h2 : y ≤ 9999) (h3 : 1 ≤ d) : decide (d ≤ Cal.len y m) = Cal.mayB y m d := by
  unfold Cal.mayB; simp [h1, h2, h3]
theorem may_c (y m d : Int) (w : World) (hL : Laid w) : Calls Tryd.prog 89 #[.agg #[.int .i64 y, .int .i64 m, .int .i64 d]] w fun e w' => e = .returned (.bool (Cal.mayB y m d)) ∧ Below w.heap.size w w' := by
  by_cases h1 : 1 ≤ y
  · by_cases h2 : y ≤ 9999
    · by_cases h3 : 1 ≤ d
      · go_enter Tryd.func89, Tryd.ntmps89
        go_wp2
        go_quiet ((go_at_call 46; exact Calls.quiet_of_same ((length_c _ _ _ ((hL.alloc _).drewN _)).mono fun _ _ h => ⟨h.1, h.2.symm⟩)))
        go_wp2
        go_ret
        exact ⟨ret_bool (mayB_len h1 h2 h3), below_drewN' (below_one _ _) _⟩
      · have h3' : decide (1 ≤ d) = false := by simpa using h3
        have H := Lib.hid (mayB_ff (y := y) (m := m) (d := d) (by omega))
        go_enter Tryd.func89, Tryd.ntmps89
        go_wp2
        go_quiet (fail)
        go_wp2
        go_ret
        exact ⟨ret_bool H.out.symm, below_drewN' (below_one _ _) _⟩
    · have h2' : decide (y ≤ 9999) = false := by simpa using h2
      have H := Lib.hid (mayB_ff (y := y) (m := m) (d := d) (by omega))
      go_enter Tryd.func89, Tryd.ntmps89
      go_wp2
      go_quiet (fail)
      go_wp2
      go_ret
      exact ⟨ret_bool H.out.symm, below_drewN' (below_one _ _) _⟩
  · have h1' : decide (1 ≤ y) = false := by simpa using h1
    have H := Lib.hid (mayB_ff (y := y) (m := m) (d := d) (by omega))
    go_enter Tryd.func89, Tryd.ntmps89
    go_wp2
    go_quiet (fail)
    go_wp2
    go_ret
    exact ⟨ret_bool H.out.symm, below_drewN' (below_one _ _) _⟩

theorem rmay_c (y m d : Int) (w : World) : Calls Tryd.prog 68 #[.agg #[.int .i64 y, .int .i64 m, .int .i64 d]] w fun e w' => e = .returned (.bool (Cal.mayB y m d)) ∧ Below w.heap.size w w' := by
  by_cases h1 : 1 ≤ y
  · by_cases h2 : y ≤ 9999
    · by_cases h3 : 1 ≤ d
      · by_cases h4 : 1 ≤ m
        · by_cases h5 : m ≤ 12
          · go_enter Tryd.func68, Tryd.ntmps68
            go_wp2_with (go_at_call 27; refine (rlength_c _ _ _).mono ?_; rintro e w' ⟨rfl, rfl⟩)
            go_ret
            exact ⟨ret_bool (mayB_len h1 h2 h3), below_one _ _⟩
          · have h5' : 12 < m := by omega
            have H := Lib.hid (mayB_ff (y := y) (m := m) (d := d) (by have := Cal.len_out y m (Or.inr h5'); omega))
            go_enter Tryd.func68, Tryd.ntmps68
            go_wp2
            go_ret
            exact ⟨ret_bool H.out.symm, below_one _ _⟩
        · have h4' : m < 1 := by omega
          have H := Lib.hid (mayB_ff (y := y) (m := m) (d := d) (by have := Cal.len_out y m (Or.inl h4'); omega))
          go_enter Tryd.func68, Tryd.ntmps68
          go_wp2
          go_ret
          exact ⟨ret_bool H.out.symm, below_one _ _⟩
      · have h3' : d < 1 := by omega
        have H := Lib.hid (mayB_ff (y := y) (m := m) (d := d) (by omega))
        by_cases h4 : 1 ≤ m
        · by_cases h5 : m ≤ 12
          · go_enter Tryd.func68, Tryd.ntmps68
            go_wp2
            go_ret
            exact ⟨ret_bool H.out.symm, below_one _ _⟩
          · go_enter Tryd.func68, Tryd.ntmps68
            go_wp2
            go_ret
            exact ⟨ret_bool H.out.symm, below_one _ _⟩
        · go_enter Tryd.func68, Tryd.ntmps68
          go_wp2
          go_ret
          exact ⟨ret_bool H.out.symm, below_one _ _⟩
    · have h2' : 9999 < y := by omega
      have H := Lib.hid (mayB_ff (y := y) (m := m) (d := d) (by omega))
      go_enter Tryd.func68, Tryd.ntmps68
      go_wp2
      go_ret
      exact ⟨ret_bool H.out.symm, below_one _ _⟩
  · have h1' : y < 1 := by omega
    have H := Lib.hid (mayB_ff (y := y) (m := m) (d := d) (by omega))
    go_enter Tryd.func68, Tryd.ntmps68
    go_wp2
    go_ret
    exact ⟨ret_bool H.out.symm, below_one _ _⟩
end Go.Proofs.YtjcjchapfiokeaaDoor
