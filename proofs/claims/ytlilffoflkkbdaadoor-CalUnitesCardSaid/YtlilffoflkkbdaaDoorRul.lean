/- A rule's days, plainly: no program in sight. Conditions: none. -/
import Derived.Test.YtlilffoflkkbdaaDoorCivF
import Derived.Test.YtlilffoflkkbdaaDoorEasA
namespace Go.Proofs.YtlilffoflkkbdaaDoor
namespace Rul
open Cal
/-- Is a number from one to another one? -/
def wi (n lo hi : Int) : Bool := decide (lo ≤ n ∧ n ≤ hi)
theorem wi_yes {n lo hi : Int} (h1 : lo ≤ n) (h2 : n ≤ hi) : wi n lo hi = true := decide_eq_true ⟨h1, h2⟩
theorem wi_no {n lo hi : Int} (h : n < lo ∨ hi < n) : wi n lo hi = false := decide_eq_false (by omega)
theorem wi_iff {n lo hi : Int} : wi n lo hi = true ↔ (lo ≤ n ∧ n ≤ hi) := by unfold wi; simp
theorem wi_nif {n lo hi : Int} : wi n lo hi = false ↔ (n < lo ∨ hi < n) := by unfold wi; simp only [decide_eq_false_iff_not]; omega
/-- Which rules may be: kinds, months, days, weeks, distances, shifts, and years. -/
def mayP (kd mo da kk off sh fr to : Int) : Prop := 0 ≤ sh ∧ sh ≤ 2 ∧ 1 ≤ fr ∧ fr ≤ to ∧ to ≤ 9999 ∧
  (kd = 0 ∧ 1 ≤ mo ∧ mo ≤ 12 ∧ 1 ≤ da ∧ da ≤ len 2000 mo ∨ kd = 1 ∧ 1 ≤ kk ∧ kk ≤ 5 ∧ 1 ≤ mo ∧ mo ≤ 12 ∧ 0 ≤ da ∧ da ≤ 6 ∨ kd = 2 ∧ 1 ≤ mo ∧ mo ≤ 12 ∧ 0 ≤ da ∧ da ≤ 6 ∨ kd = 3 ∧ -100 ≤ off ∧ off ≤ 250)
instance (kd mo da kk off sh fr to : Int) : Decidable (mayP kd mo da kk off sh fr to) := by unfold mayP; infer_instance
def may (kd mo da kk off sh fr to : Int) : Bool := decide (mayP kd mo da kk off sh fr to)
theorem may_iff {kd mo da kk off sh fr to : Int} : may kd mo da kk off sh fr to = true ↔ mayP kd mo da kk off sh fr to := by unfold may; simp
theorem may_no {kd mo da kk off sh fr to : Int} (h : ¬ mayP kd mo da kk off sh fr to) : may kd mo da kk off sh fr to = false := decide_eq_false h
def dayV (n : Int) : Int := if 1 ≤ n ∧ n ≤ 3652059 then n else 0
def pos (n : Int) : Bool := decide (0 < n)
theorem dayV_in {n : Int} (h1 : 1 ≤ n) (h2 : n ≤ 3652059) : dayV n = n := if_pos ⟨h1, h2⟩
theorem dayV_out {n : Int} (h : n < 1 ∨ 3652059 < n) : dayV n = 0 := if_neg (by omega)
theorem pos_yes {n : Int} (h : 0 < n) : pos n = true := decide_eq_true h
theorem pos_zero : pos 0 = false := rfl
theorem pos_iff {n : Int} : pos n = true ↔ 0 < n := by unfold pos; simp
/-- The day of the month of the k-th day of the week. -/
def nthD (y mo da kk : Int) : Int := (da - wd (num y mo 1)) % 7 + 7 * (kk - 1) + 1
def lastD (y mo da : Int) : Int := num y mo (len y mo) - (wd (num y mo (len y mo)) - da) % 7
/-- A rule's day of a year, as it stands; 0 where there is none. -/
def baK (kd mo da kk off y : Int) : Int := if kd = 0 then numV y mo da else if kd = 1 then numV y mo (nthD y mo da kk) else if kd = 2 then lastD y mo da else dayV (easV y + off)
def ba (kd mo da kk off fr to y : Int) : Int := if fr ≤ y ∧ y ≤ to then baK kd mo da kk off y else 0
/-- A day, shifted. -/
def shf (b sh : Int) : Int := if wd b = 5 then (if sh = 1 then b - 1 else if sh = 2 then b + 2 else b) else if wd b = 6 then (if sh = 0 then b else b + 1) else b
def ins (kd mo da kk off sh fr to y : Int) : Int := if ba kd mo da kk off fr to y = 0 then 0 else dayV (shf (ba kd mo da kk off fr to y) sh)
/-- Is a day one of a rule? -/
def isB (kd mo da kk off sh fr to n : Int) : Bool := dayB n && (ins kd mo da kk off sh fr to (yOf n - 1) == n || ins kd mo da kk off sh fr to (yOf n) == n || ins kd mo da kk off sh fr to (yOf n + 1) == n)

theorem ba_in {kd mo da kk off fr to y : Int} (h1 : fr ≤ y) (h2 : y ≤ to) : ba kd mo da kk off fr to y = baK kd mo da kk off y := if_pos ⟨h1, h2⟩
theorem ba_out {kd mo da kk off fr to y : Int} (h : y < fr ∨ to < y) : ba kd mo da kk off fr to y = 0 := if_neg (by omega)
theorem ins_out {kd mo da kk off sh fr to y : Int} (h : y < fr ∨ to < y) : ins kd mo da kk off sh fr to y = 0 := if_pos (ba_out h)
theorem numV_bd (y m d : Int) : 0 ≤ numV y m d ∧ numV y m d ≤ 3652059 := by
  cases h : mayB y m d
  · rw [(numV_no h).1]; omega
  · rw [(numV_yes h).1]; have := (day_mk h).bd; omega
theorem dayV_bd (n : Int) : 0 ≤ dayV n ∧ dayV n ≤ 3652059 := by unfold dayV; split <;> omega
theorem may_len {y m : Int} (y1 : 1 ≤ y) (y2 : y ≤ 9999) (m1 : 1 ≤ m) (m2 : m ≤ 12) : mayB y m (len y m) = true :=
  (mayB_iff _ _ _).2 ⟨y1, y2, by have := len_bd y m m1 m2; omega, Int.le_refl _⟩
theorem may_one {y m : Int} (y1 : 1 ≤ y) (y2 : y ≤ 9999) (m1 : 1 ≤ m) (m2 : m ≤ 12) : mayB y m 1 = true :=
  (mayB_iff _ _ _).2 ⟨y1, y2, Int.le_refl _, by have := len_bd y m m1 m2; omega⟩
theorem num_sub (y m d k : Int) : num y m d = num y m k + (d - k) := by unfold num; omega
/-- The last day of the week of a month is one of its days. -/
theorem last_day {y m da : Int} (y1 : 1 ≤ y) (y2 : y ≤ 9999) (m1 : 1 ≤ m) (m2 : m ≤ 12) : ∃ k, 0 ≤ k ∧ k ≤ 6 ∧ k = (wd (num y m (len y m)) - da) % 7 ∧ lastD y m da = num y m (len y m - k) ∧ mayB y m (len y m - k) = true := by
  have l := len_bd y m m1 m2
  refine ⟨(wd (num y m (len y m)) - da) % 7, by omega, by omega, rfl, ?_, ?_⟩
  · unfold lastD; have := num_sub y m (len y m) (len y m - (wd (num y m (len y m)) - da) % 7); omega
  · exact (mayB_iff _ _ _).2 ⟨y1, y2, by omega, by omega⟩
theorem baK_bd {kd mo da kk off sh fr to y : Int} (h : mayP kd mo da kk off sh fr to) (y1 : 1 ≤ y) (y2 : y ≤ 9999) : 0 ≤ baK kd mo da kk off y ∧ baK kd mo da kk off y ≤ 3652059 := by
  unfold baK
  obtain ⟨_, _, _, _, _, h⟩ := h
  split
  · exact numV_bd _ _ _
  split
  · exact numV_bd _ _ _
  split
  · obtain ⟨k, _, _, _, e, m⟩ := last_day (da := da) y1 y2 (m := mo) (by omega) (by omega)
    rw [e]; have := (day_mk m).bd; omega
  · exact dayV_bd _
theorem ba_bd {kd mo da kk off sh fr to : Int} (h : mayP kd mo da kk off sh fr to) (y : Int) : 0 ≤ ba kd mo da kk off fr to y ∧ ba kd mo da kk off fr to y ≤ 3652059 := by
  unfold ba; split
  · exact baK_bd h (by obtain ⟨_, _, _, _, _, _⟩ := h; omega) (by obtain ⟨_, _, _, _, _, _⟩ := h; omega)
  · omega
theorem ins_bd (kd mo da kk off sh fr to y : Int) : 0 ≤ ins kd mo da kk off sh fr to y ∧ ins kd mo da kk off sh fr to y ≤ 3652059 := by
  unfold ins; split
  · omega
  · exact dayV_bd _
theorem shf_bd (b sh : Int) : b - 1 ≤ shf b sh ∧ shf b sh ≤ b + 2 := by unfold shf; split <;> split <;> (try split) <;> omega
end Rul
end Go.Proofs.YtlilffoflkkbdaaDoor
