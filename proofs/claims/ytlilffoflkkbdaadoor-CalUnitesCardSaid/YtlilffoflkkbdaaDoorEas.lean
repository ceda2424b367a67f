/- Easter, reckoned plainly: the program's way and the document's way, and that they agree in each of the years 1 to 9999 (looked through by the kernel, year by year). No program in sight. Conditions: none. -/
import Derived.Test.YtlilffoflkkbdaaDoorCalMore
namespace Go.Proofs.YtlilffoflkkbdaaDoor
namespace Eas
open Cal
def hh (y : Int) : Int := (19 * (y % 19) + y / 100 - y / 100 / 4 - (y / 100 - (y / 100 + 8) / 25 + 1) / 3 + 15) % 30
def ll (y : Int) : Int := (32 + 2 * (y / 100 % 4) + 2 * (y % 100 / 4) - hh y - y % 100 % 4) % 7
def mm (y : Int) : Int := (y % 19 + 11 * hh y + 22 * ll y) / 451
def nn (y : Int) : Int := hh y + ll y - 7 * mm y + 114
/-- Easter by the program's way. -/
def eday (y : Int) : Int := num y (nn y / 31) (nn y % 31 + 1)

theorem hh_bd (y : Int) : 0 ≤ hh y ∧ hh y ≤ 29 := by unfold hh; omega
theorem ll_bd (y : Int) : 0 ≤ ll y ∧ ll y ≤ 6 := by unfold ll; omega
theorem mm_bd (y : Int) : 0 ≤ mm y ∧ mm y ≤ 1 ∧ (mm y = 1 → 7 ≤ hh y + ll y) ∧ (35 ≤ hh y + ll y → 1 ≤ mm y) := by
  have a := hh_bd y
  have b := ll_bd y
  unfold mm
  omega
theorem nn_bd (y : Int) : 114 ≤ nn y ∧ nn y ≤ 148 := by
  have a := hh_bd y
  have b := ll_bd y
  have c := mm_bd y
  unfold nn
  omega
theorem may_eday (y : Int) (h1 : 1 ≤ y) (h2 : y ≤ 9999) : mayB y (nn y / 31) (nn y % 31 + 1) = true := by
  have a := nn_bd y
  refine (mayB_iff _ _ _).2 ⟨h1, h2, by omega, ?_⟩
  have hk : nn y / 31 = 3 ∨ nn y / 31 = 4 := by omega
  rcases hk with hk | hk <;> rw [hk] <;> simp [len] <;> omega

/-- The document's way. -/
def cc (y : Int) : Int := y / 100 + 1
def ee0 (y : Int) : Int := (11 * (y % 19 + 1) + 20 + ((8 * cc y + 5) / 25 - 5) - (3 * cc y / 4 - 12)) % 30
def ee (y : Int) : Int := if ee0 y = 25 ∧ 11 < y % 19 + 1 ∨ ee0 y = 24 then ee0 y + 1 else ee0 y
def moon (y : Int) : Int := if 44 - ee y < 21 then 44 - ee y + 30 else 44 - ee y
def rday (y : Int) : Int := num y 3 1 + moon y + (6 - wd (num y 3 1 + moon y))

def okAt (k : Nat) : Bool := decide (eday ((k : Int) + 1) = rday ((k : Int) + 1))
theorem ok0 : (List.range' 0 1250).all okAt = true := by decide +kernel
theorem ok1 : (List.range' 1250 1250).all okAt = true := by decide +kernel
theorem ok2 : (List.range' 2500 1250).all okAt = true := by decide +kernel
theorem ok3 : (List.range' 3750 1250).all okAt = true := by decide +kernel
theorem ok4 : (List.range' 5000 1250).all okAt = true := by decide +kernel
theorem ok5 : (List.range' 6250 1250).all okAt = true := by decide +kernel
theorem ok6 : (List.range' 7500 1250).all okAt = true := by decide +kernel
theorem ok7 : (List.range' 8750 1249).all okAt = true := by decide +kernel
theorem ok_at {s n k : Nat} (h : (List.range' s n).all okAt = true) (h1 : s ≤ k) (h2 : k < s + n) : okAt k = true :=
  List.all_eq_true.1 h k (List.mem_range'_1.2 ⟨h1, h2⟩)
theorem agree (y : Int) (h1 : 1 ≤ y) (h2 : y ≤ 9999) : eday y = rday y := by
  obtain ⟨k, hk⟩ : ∃ k : Nat, y = k + 1 := ⟨(y - 1).toNat, by omega⟩
  subst hk
  have h : okAt k = true := by
    by_cases c0 : k < 1250
    · exact ok_at ok0 (by omega) (by omega)
    by_cases c1 : k < 2500
    · exact ok_at ok1 (by omega) (by omega)
    by_cases c2 : k < 3750
    · exact ok_at ok2 (by omega) (by omega)
    by_cases c3 : k < 5000
    · exact ok_at ok3 (by omega) (by omega)
    by_cases c4 : k < 6250
    · exact ok_at ok4 (by omega) (by omega)
    by_cases c5 : k < 7500
    · exact ok_at ok5 (by omega) (by omega)
    by_cases c6 : k < 8750
    · exact ok_at ok6 (by omega) (by omega)
    exact ok_at ok7 (by omega) (by omega)
  exact of_decide_eq_true h

/-- SUNDAY. -/
theorem sunday (y : Int) (h1 : 1 ≤ y) (h2 : y ≤ 9999) : wd (eday y) = 6 := by
  rw [agree y h1 h2]; unfold rday
  generalize num y 3 1 + moon y = a
  unfold wd; omega
theorem range (y : Int) : num y 3 22 ≤ eday y ∧ eday y ≤ num y 4 25 := by
  have a := nn_bd y
  have c := cum_succ y 3 (by omega) (by omega)
  have l : len y 3 = 31 := by simp [len]
  simp only [Int.reduceAdd] at c
  have hk : nn y / 31 = 3 ∨ nn y / 31 = 4 := by omega
  unfold eday num
  rcases hk with hk | hk <;> rw [hk] <;> omega
theorem may_march {y : Int} (h1 : 1 ≤ y) (h2 : y ≤ 9999) (d : Int) (h3 : 1 ≤ d) (h4 : d ≤ 31) : mayB y 3 d = true := (mayB_iff _ _ _).2 ⟨h1, h2, h3, by simp [len]; omega⟩
theorem may_april {y : Int} (h1 : 1 ≤ y) (h2 : y ≤ 9999) (d : Int) (h3 : 1 ≤ d) (h4 : d ≤ 30) : mayB y 4 d = true := (mayB_iff _ _ _).2 ⟨h1, h2, h3, by simp [len]; omega⟩
theorem april (y : Int) : num y 4 25 = num y 3 22 + 34 := by
  have c := cum_succ y 3 (by omega) (by omega)
  have l : len y 3 = 31 := by simp [len]
  simp only [Int.reduceAdd] at c
  unfold num; omega
theorem march (y : Int) : num y 3 22 = num y 3 1 + 21 := by unfold num; omega
/-- APART. -/
theorem next_march (y : Int) : num (y + 1) 3 22 = num y 3 22 + 365 + lp (y + 1) := by
  have a := dby_succ y
  have c1 := cum_succ y 2 (by omega) (by omega)
  have c2 := cum_succ (y + 1) 2 (by omega) (by omega)
  have e1 : cum y 2 = 31 := by simp [cum]
  have e2 : cum (y + 1) 2 = 31 := by simp [cum]
  have l1 : len y 2 = 28 + lp y := by simp [len]
  have l2 : len (y + 1) 2 = 28 + lp (y + 1) := by simp [len]
  simp only [Int.reduceAdd] at c1 c2
  unfold num; omega
theorem apart (y : Int) : 331 ≤ eday (y + 1) - eday y ∧ eday (y + 1) - eday y ≤ 400 := by
  have a := range y
  have b := range (y + 1)
  have c := april y
  have d := april (y + 1)
  have e := next_march y
  have f := lp_01 (y + 1)
  omega
/-- ROUND. -/
theorem moon_round (y : Int) (h : y / 100 = (y + 19) / 100) : moon (y + 19) = moon y := by
  have a : (y + 19) % 19 = y % 19 := by omega
  have b : cc (y + 19) = cc y := by unfold cc; rw [h]
  have c : ee0 (y + 19) = ee0 y := by unfold ee0; rw [a, b]
  have d : ee (y + 19) = ee y := by unfold ee; rw [a, c]
  unfold moon; rw [d]
theorem round (y : Int) (h1 : 1 ≤ y) (h2 : y + 19 ≤ 9999) (h : y / 100 = (y + 19) / 100) :
    (eday y - num y 3 1) - (eday (y + 19) - num (y + 19) 3 1) < 7 ∧ (eday (y + 19) - num (y + 19) 3 1) - (eday y - num y 3 1) < 7 := by
  rw [agree y h1 (by omega), agree (y + 19) (by omega) h2]
  have m := moon_round y h
  have a := wd_bd (num y 3 1 + moon y)
  have b := wd_bd (num (y + 19) 3 1 + moon (y + 19))
  unfold rday
  omega
end Eas
end Go.Proofs.YtlilffoflkkbdaaDoor
