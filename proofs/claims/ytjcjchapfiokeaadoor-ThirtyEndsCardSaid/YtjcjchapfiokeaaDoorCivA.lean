/- The contracts of the small functions of the layer of days: leap years, months' lengths, the day of the week, the days ahead of a year: the program's and the document's. Conditions: the table of months' lengths lies in block 0 as the program's text lays it. -/
import Derived.Test.YtjcjchapfiokeaaDoorProg
import Derived.Test.YtjcjchapfiokeaaDoorCal
import Derived.WalkKit
import Derived.KernelRfl
import Derived.BigQuiet
import Derived.Deep.QuietTactic
import Derived.Lib.Hide
namespace Go.Proofs.YtjcjchapfiokeaaDoor
open Go.RowKit

theorem ret_int {k : IntKind} {a b : Int} (h : a = b) : Ending.returned (.int k a) = .returned (.int k b) := by rw [h]
theorem ret_bool {a b : Bool} (h : a = b) : Ending.returned (.bool a) = .returned (.bool b) := by rw [h]

@[go_sem] theorem drewN_setCell (w : World) (n : Nat) (a : Addr) (v : Value) : (w.drewN n).setCell a v = (w.setCell a v).drewN n := rfl
@[go_sem] theorem drewN_alloc (w : World) (n : Nat) (o : Obj) : (w.drewN n).alloc o = (w.alloc o).drewN n := rfl

/-- The months' lengths, as they lie. -/
def mlen (i : Nat) : Int := if i = 0 then 0 else if i = 2 then 28 else if i = 4 ∨ i = 6 ∨ i = 9 ∨ i = 11 then 30 else 31
structure Laid (w : World) : Prop where
  cell : ∀ i : Nat, i < 13 → w.cell? ⟨0, i, none⟩ = some (.int .i64 (mlen i))
  size : 0 < w.heap.size
theorem Laid.below {w w' : World} (h : Laid w) (hb : Below w.heap.size w w') : Laid w' :=
  ⟨fun i hi => (hb.cell (p := ⟨0, i, none⟩) h.size).trans (h.cell i hi), Nat.lt_of_lt_of_le h.size hb.size⟩
theorem Laid.alloc {w : World} (h : Laid w) (o : Obj) : Laid (w.alloc o) := h.below ((Below.refl _ _).alloc (Nat.le_refl _) o)
theorem Laid.drewN {w : World} (h : Laid w) (n : Nat) : Laid (w.drewN n) := ⟨h.cell, h.size⟩

theorem tmod0 (y k : Int) : y.tmod k = 0 ↔ y % k = 0 := by
  rw [← Int.dvd_iff_tmod_eq_zero, Int.dvd_iff_emod_eq_zero]
theorem tmod7 (n : Int) : -6 ≤ n.tmod 7 ∧ n.tmod 7 ≤ 6 ∧ (n.tmod 7) % 7 = n % 7 := by
  have h := Int.tmod_eq_emod (a := n) (b := 7)
  rw [h]; split <;> omega
theorem leapB_tt {y : Int} (h1 : y.tmod 4 = 0) (h2 : ¬ y.tmod 100 = 0) : Cal.leapB y = true := by
  rw [tmod0] at h1 h2
  unfold Cal.leapB; exact decide_eq_true (by omega)
theorem leapB_t4 {y : Int} (h1 : y.tmod 4 = 0) (h2 : y.tmod 100 = 0) : (y.tmod 400 == 0) = Cal.leapB y := by
  rw [tmod0] at h1 h2
  unfold Cal.leapB
  by_cases h : y % 400 = 0
  · rw [decide_eq_true (by omega)]; simp [(tmod0 y 400).2 h]
  · rw [decide_eq_false (by omega)]; simp [mt (tmod0 y 400).1 h]
theorem leapB_ff {y : Int} (h1 : ¬ y.tmod 4 = 0) : Cal.leapB y = false := by
  rw [tmod0] at h1
  unfold Cal.leapB; exact decide_eq_false (by omega)
theorem leapB_t400 {y : Int} (h1 : (y.tmod 400 == 0) = true) : Cal.leapB y = true := by
  have h2 : y.tmod 400 = 0 := by simpa using h1
  rw [tmod0] at h2
  unfold Cal.leapB; exact decide_eq_true (by omega)
theorem leapB_n400 {y : Int} (h1 : (y.tmod 400 == 0) = false) (h4 : y.tmod 4 = 0) : (y.tmod 100 != 0) = Cal.leapB y := by
  have h2 : ¬ y.tmod 400 = 0 := by simpa using h1
  rw [tmod0] at h2 h4
  unfold Cal.leapB
  by_cases h : y % 100 = 0
  · rw [decide_eq_false (by omega)]; simp [(tmod0 y 100).2 h]
  · rw [decide_eq_true (by omega)]; simp [mt (tmod0 y 100).1 h]

theorem leap_c (y : Int) (w : World) : Calls Tryd.prog 76 #[.int .i64 y] w fun e w' => e = .returned (.bool (Cal.leapB y)) ∧ w = w' := by
  go_enter Tryd.func76, Tryd.ntmps76
  go_wp2
  all_goals go_ret
  · exact ⟨ret_bool (leapB_t4 (by assumption) (by assumption)), rfl⟩
  · exact ⟨ret_bool (leapB_tt (by assumption) (by assumption)).symm, rfl⟩
  · exact ⟨ret_bool (leapB_ff (by assumption)).symm, rfl⟩

theorem rleap_c (y : Int) (w : World) : Calls Tryd.prog 28 #[.int .i64 y] w fun e w' => e = .returned (.bool (Cal.leapB y)) ∧ w = w' := by
  go_enter Tryd.func28, Tryd.ntmps28
  go_wp2
  all_goals go_ret
  · exact ⟨ret_bool (leapB_t400 (by assumption)).symm, rfl⟩
  · exact ⟨ret_bool (leapB_n400 (by assumption) (by assumption)), rfl⟩
  · exact ⟨ret_bool (leapB_ff (by assumption)).symm, rfl⟩

theorem wd_c (n : Int) (w : World) : Calls Tryd.prog 52 #[.int .i64 n] w fun e w' => e = .returned (.int .i64 (Cal.wd n)) ∧ w = w' := by
  obtain ⟨h1, h2, h3⟩ := tmod7 n
  have H := Lib.hid h3; clear h3
  go_enter Tryd.func52, Tryd.ntmps52
  go_wp2
  go_ret
  exact ⟨ret_int (by have := H.out; unfold Cal.wd; omega), rfl⟩

theorem rwd_c (n : Int) (w : World) : Calls Tryd.prog 25 #[.int .i64 n] w fun e w' => e = .returned (.int .i64 (Cal.wd n)) ∧ w = w' := by
  obtain ⟨h1, h2, h3⟩ := tmod7 n
  have H := Lib.hid h3; clear h3
  go_enter Tryd.func25, Tryd.ntmps25
  go_wp2
  · go_ret
    have g : (n.tmod 7 % 7 == 0) = true := by assumption
    exact ⟨ret_int (by have := H.out; have : n.tmod 7 % 7 = 0 := by simpa using g
                       unfold Cal.wd; omega), rfl⟩
  · go_ret
    have g : (n.tmod 7 % 7 == 0) = false := by assumption
    exact ⟨ret_int (by have := H.out; have : ¬ n.tmod 7 % 7 = 0 := by simpa using g
                       unfold Cal.wd; omega), rfl⟩

theorem length_out (y m : Int) (w : World) (h : m < 1 ∨ 12 < m) : Calls Tryd.prog 46 #[.int .i64 y, .int .i64 m] w fun e w' => e = .returned (.int .i64 (Cal.len y m)) ∧ w = w' := by
  have H := Lib.hid (Cal.len_out y m h)
  rcases h with h | h
  · go_enter Tryd.func46, Tryd.ntmps46
    go_wp2
    go_ret
    exact ⟨ret_int H.out.symm, rfl⟩
  · have h1 : ¬ m < 1 := by omega
    go_enter Tryd.func46, Tryd.ntmps46
    go_wp2
    go_ret
    exact ⟨ret_int H.out.symm, rfl⟩
theorem length_feb (y : Int) (w : World) (hc : w.cell? ⟨0, 2, none⟩ = some (.int .i64 28)) : Calls Tryd.prog 46 #[.int .i64 y, .int .i64 2] w fun e w' => e = .returned (.int .i64 (Cal.len y 2)) ∧ w = w' := by
  go_enter Tryd.func46, Tryd.ntmps46
  go_wp2_with (go_at_call 76; refine (leap_c _ _).mono ?_; rintro e w' ⟨rfl, rfl⟩)
  · go_ret
    have g : Cal.leapB y = true := by assumption
    exact ⟨ret_int (by simp [Cal.len, Cal.leapB_yes g]), rfl⟩
  · go_ret
    have g : Cal.leapB y = false := by assumption
    exact ⟨ret_int (by simp [Cal.len, Cal.leapB_no g]), rfl⟩
theorem length_c (y m : Int) (w : World) (hL : Laid w) : Calls Tryd.prog 46 #[.int .i64 y, .int .i64 m] w fun e w' => e = .returned (.int .i64 (Cal.len y m)) ∧ w = w' := by
  by_cases h : 1 ≤ m ∧ m ≤ 12
  · rcases Cal.month_cases h.1 h.2 with k | k | k | k | k | k | k | k | k | k | k | k <;> subst k
    case inr.inl => exact length_feb y w (hL.cell 2 (by decide))
    case inl => have hc := hL.cell 1 (by decide); simp [mlen] at hc; clear h; go_enter Tryd.func46, Tryd.ntmps46; go_wp2; go_ret; exact ⟨rfl, rfl⟩
    case inr.inr.inl => have hc := hL.cell 3 (by decide); simp [mlen] at hc; clear h; go_enter Tryd.func46, Tryd.ntmps46; go_wp2; go_ret; exact ⟨rfl, rfl⟩
    case inr.inr.inr.inl => have hc := hL.cell 4 (by decide); simp [mlen] at hc; clear h; go_enter Tryd.func46, Tryd.ntmps46; go_wp2; go_ret; exact ⟨rfl, rfl⟩
    case inr.inr.inr.inr.inl => have hc := hL.cell 5 (by decide); simp [mlen] at hc; clear h; go_enter Tryd.func46, Tryd.ntmps46; go_wp2; go_ret; exact ⟨rfl, rfl⟩
    case inr.inr.inr.inr.inr.inl => have hc := hL.cell 6 (by decide); simp [mlen] at hc; clear h; go_enter Tryd.func46, Tryd.ntmps46; go_wp2; go_ret; exact ⟨rfl, rfl⟩
    case inr.inr.inr.inr.inr.inr.inl => have hc := hL.cell 7 (by decide); simp [mlen] at hc; clear h; go_enter Tryd.func46, Tryd.ntmps46; go_wp2; go_ret; exact ⟨rfl, rfl⟩
    case inr.inr.inr.inr.inr.inr.inr.inl => have hc := hL.cell 8 (by decide); simp [mlen] at hc; clear h; go_enter Tryd.func46, Tryd.ntmps46; go_wp2; go_ret; exact ⟨rfl, rfl⟩
    case inr.inr.inr.inr.inr.inr.inr.inr.inl => have hc := hL.cell 9 (by decide); simp [mlen] at hc; clear h; go_enter Tryd.func46, Tryd.ntmps46; go_wp2; go_ret; exact ⟨rfl, rfl⟩
    case inr.inr.inr.inr.inr.inr.inr.inr.inr.inl => have hc := hL.cell 10 (by decide); simp [mlen] at hc; clear h; go_enter Tryd.func46, Tryd.ntmps46; go_wp2; go_ret; exact ⟨rfl, rfl⟩
    case inr.inr.inr.inr.inr.inr.inr.inr.inr.inr.inl => have hc := hL.cell 11 (by decide); simp [mlen] at hc; clear h; go_enter Tryd.func46, Tryd.ntmps46; go_wp2; go_ret; exact ⟨rfl, rfl⟩
    case inr.inr.inr.inr.inr.inr.inr.inr.inr.inr.inr => have hc := hL.cell 12 (by decide); simp [mlen] at hc; clear h; go_enter Tryd.func46, Tryd.ntmps46; go_wp2; go_ret; exact ⟨rfl, rfl⟩
  · exact length_out y m w (by omega)

theorem rlength_feb (y : Int) (w : World) : Calls Tryd.prog 27 #[.int .i64 y, .int .i64 2] w fun e w' => e = .returned (.int .i64 (Cal.len y 2)) ∧ w = w' := by
  go_enter Tryd.func27, Tryd.ntmps27
  go_wp2_with (go_at_call 28; refine (rleap_c _ _).mono ?_; rintro e w' ⟨rfl, rfl⟩)
  · go_ret
    have g : Cal.leapB y = true := by assumption
    exact ⟨ret_int (by simp [Cal.len, Cal.leapB_yes g]), rfl⟩
  · go_ret
    have g : Cal.leapB y = false := by assumption
    exact ⟨ret_int (by simp [Cal.len, Cal.leapB_no g]), rfl⟩
theorem rlength_out (y m : Int) (w : World) (h : m < 1 ∨ 12 < m) : Calls Tryd.prog 27 #[.int .i64 y, .int .i64 m] w fun e w' => e = .returned (.int .i64 (Cal.len y m)) ∧ w = w' := by
  have H := Lib.hid (Cal.len_out y m h)
  have h1 : (m == 1) = false := beq_eq_false_iff_ne.2 (by omega)
  have h2 : (m == 2) = false := beq_eq_false_iff_ne.2 (by omega)
  have h3 : (m == 3) = false := beq_eq_false_iff_ne.2 (by omega)
  have h4 : (m == 4) = false := beq_eq_false_iff_ne.2 (by omega)
  have h5 : (m == 5) = false := beq_eq_false_iff_ne.2 (by omega)
  have h6 : (m == 6) = false := beq_eq_false_iff_ne.2 (by omega)
  have h7 : (m == 7) = false := beq_eq_false_iff_ne.2 (by omega)
  have h8 : (m == 8) = false := beq_eq_false_iff_ne.2 (by omega)
  have h9 : (m == 9) = false := beq_eq_false_iff_ne.2 (by omega)
  have h10 : (m == 10) = false := beq_eq_false_iff_ne.2 (by omega)
  have h11 : (m == 11) = false := beq_eq_false_iff_ne.2 (by omega)
  have h12 : (m == 12) = false := beq_eq_false_iff_ne.2 (by omega)
  clear h
  go_enter Tryd.func27, Tryd.ntmps27
  go_wp2
  go_ret
  exact ⟨ret_int H.out.symm, rfl⟩
theorem rlength_c (y m : Int) (w : World) : Calls Tryd.prog 27 #[.int .i64 y, .int .i64 m] w fun e w' => e = .returned (.int .i64 (Cal.len y m)) ∧ w = w' := by
  by_cases h : 1 ≤ m ∧ m ≤ 12
  · rcases Cal.month_cases h.1 h.2 with k | k | k | k | k | k | k | k | k | k | k | k <;> subst k
    case inr.inl => exact rlength_feb y w
    all_goals (clear h; go_enter Tryd.func27, Tryd.ntmps27; go_wp2; go_ret; exact ⟨rfl, rfl⟩)
  · exact rlength_out y m w (by omega)

end Go.Proofs.YtjcjchapfiokeaaDoor
