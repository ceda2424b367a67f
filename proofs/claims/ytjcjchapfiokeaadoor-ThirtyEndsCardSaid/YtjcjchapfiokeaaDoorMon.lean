/- So many months on, plainly: no program in sight. Conditions: none. -/
import Derived.Test.YtjcjchapfiokeaaDoorCalMore
namespace Go.Proofs.YtjcjchapfiokeaaDoor
namespace Mon
open Cal
/-- The month that is so many on, months counted from the year 0 on. -/
def M (n k : Int) : Int := 12 * yOf n + mOf n - 1 + k
def Y (n k : Int) : Int := M n k / 12
def N (n k : Int) : Int := M n k % 12 + 1
def isEnd (n : Int) : Bool := decide (dOf n = len (yOf n) (mOf n))
def D (n k : Int) (eom : Bool) : Int := if (eom && isEnd n) = true then len (Y n k) (N n k) else min (dOf n) (len (Y n k) (N n k))
def okB (n k : Int) : Bool := decide (1 ≤ n ∧ n ≤ 3652059 ∧ 12 ≤ M n k ∧ M n k ≤ 119999)
def V (n k : Int) (eom : Bool) : Int := if okB n k = true then num (Y n k) (N n k) (D n k eom) else 0
def E (n k : Int) : Int := if okB n k = true then 0 else 3
def lastB (n : Int) : Bool := decide (1 ≤ n ∧ n ≤ 3652059) && isEnd n
def endV (n : Int) : Int := if 1 ≤ n ∧ n ≤ 3652059 then num (yOf n) (mOf n) (len (yOf n) (mOf n)) else 0

theorem ok_iff (n k : Int) : okB n k = true ↔ (1 ≤ n ∧ n ≤ 3652059 ∧ 12 ≤ M n k ∧ M n k ≤ 119999) := by unfold okB; simp
theorem V_yes {n k : Int} {eom : Bool} (h : okB n k = true) : V n k eom = num (Y n k) (N n k) (D n k eom) ∧ E n k = 0 := by simp [V, E, h]
theorem V_no {n k : Int} {eom : Bool} (h : okB n k = false) : V n k eom = 0 ∧ E n k = 3 := by simp [V, E, h]
theorem YN_bd {n k : Int} (h : okB n k = true) : 1 ≤ Y n k ∧ Y n k ≤ 9999 ∧ 1 ≤ N n k ∧ N n k ≤ 12 := by
  obtain ⟨_, _, a, b⟩ := (ok_iff n k).1 h
  unfold Y N; omega
theorem D_bd {n k : Int} {eom : Bool} (h : okB n k = true) : 1 ≤ D n k eom ∧ D n k eom ≤ len (Y n k) (N n k) := by
  obtain ⟨n1, n2, _, _⟩ := (ok_iff n k).1 h
  obtain ⟨_, _, c, d⟩ := YN_bd h
  have l := len_bd (Y n k) (N n k) c d
  have := (day_of n n1 n2).d1
  unfold D; split <;> omega
theorem day {n k : Int} {eom : Bool} (h : okB n k = true) : Day (V n k eom) (Y n k) (N n k) (D n k eom) := by
  obtain ⟨a, b, c, d⟩ := YN_bd h
  obtain ⟨e, f⟩ := D_bd (eom := eom) h
  exact ⟨a, b, c, d, e, f, ((V_yes h).1).symm⟩
theorem end_day {n : Int} (h1 : 1 ≤ n) (h2 : n ≤ 3652059) : Day (endV n) (yOf n) (mOf n) (len (yOf n) (mOf n)) := by
  have d := day_of n h1 h2
  exact ⟨d.y1, d.y2, d.m1, d.m2, by have := len_bd (yOf n) (mOf n) d.m1 d.m2; omega, Int.le_refl _, by unfold endV; rw [if_pos ⟨h1, h2⟩]⟩
theorem isEnd_iff (n : Int) : isEnd n = true ↔ dOf n = len (yOf n) (mOf n) := by unfold isEnd; simp
theorem lastB_in {n : Int} (h1 : 1 ≤ n) (h2 : n ≤ 3652059) : lastB n = isEnd n := by simp [lastB, h1, h2]
theorem lastB_out {n : Int} (h : n < 1 ∨ 3652059 < n) : lastB n = false := by
  unfold lastB; rw [decide_eq_false (by omega)]; rfl
theorem endV_out {n : Int} (h : n < 1 ∨ 3652059 < n) : endV n = 0 := by unfold endV; rw [if_neg (by omega)]
end Mon
end Go.Proofs.YtjcjchapfiokeaaDoor
