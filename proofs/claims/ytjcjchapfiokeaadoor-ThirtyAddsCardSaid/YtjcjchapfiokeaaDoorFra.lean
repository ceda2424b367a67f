/- Fractions by 360 in lowest terms, plainly. Conditions: none. -/
import Derived.Test.YtjcjchapfiokeaaDoorThiG
namespace Go.Proofs.YtjcjchapfiokeaaDoor
open Go.RowKit
set_option linter.unusedVariables false
/-- A fraction by 360 in lowest terms. -/
def FR (n p d : Nat) : Prop := Thi.rN n 360 = (p : Int) ∧ Thi.rD n 360 = (d : Int) ∧ p ≤ 4611686018427387904 ∧ 0 < d ∧ d ≤ 360 ∧ Nat.gcd p d = 1 ∧ (360 : Int).tmod (d : Int) = 0
theorem fr_ex (n : Nat) (h : n ≤ 4000000) : ∃ p d, FR n p d ∧ p * (Nat.gcd n 360) = n ∧ d * (Nat.gcd n 360) = 360 ∧ 0 < Nat.gcd n 360 := by
  have hg : 0 < Nat.gcd n 360 := Nat.gcd_pos_of_pos_right _ (by decide)
  have h1 := Nat.div_mul_cancel (Nat.gcd_dvd_left n 360)
  have h2 := Nat.div_mul_cancel (Nat.gcd_dvd_right n 360)
  refine ⟨n / Nat.gcd n 360, 360 / Nat.gcd n 360, ⟨rfl, rfl, ?_, ?_, Nat.div_le_self _ _, ?_, ?_⟩, h1, h2, hg⟩
  · have := Nat.div_le_self n (Nat.gcd n 360); omega
  · exact Nat.div_pos (Nat.le_of_dvd (by decide) (Nat.gcd_dvd_right n 360)) hg
  · exact Nat.gcd_div_gcd_div_gcd_of_pos_right (by decide)
  · have e : ((360 : Nat) : Int).tmod ((360 / Nat.gcd n 360 : Nat) : Int) = ((360 % (360 / Nat.gcd n 360) : Nat) : Int) := rem_nat _ _
    rw [show (360 : Int) = ((360 : Nat) : Int) from rfl, e]
    have : 360 % (360 / Nat.gcd n 360) = 0 := Nat.mod_eq_zero_of_dvd (Nat.div_dvd_of_dvd (Nat.gcd_dvd_right n 360))
    rw [this]; rfl
theorem fr_mono {n m p d q e g k : Nat} (hn : p * g = n) (hd : d * g = 360) (hm : q * k = m) (he : e * k = 360) (hg : 0 < g) (hk : 0 < k) (h : n ≤ m) : p * e ≤ q * d := by
  have h1 : p * e * (g * k) = n * 360 := by rw [← hn, ← he]; simp [Nat.mul_comm, Nat.mul_left_comm]
  have h2 : q * d * (g * k) = m * 360 := by rw [← hm, ← hd]; simp [Nat.mul_comm, Nat.mul_left_comm]
  have h3 : p * e * (g * k) ≤ q * d * (g * k) := by rw [h1, h2]; exact Nat.mul_le_mul_right 360 h
  exact Nat.le_of_mul_le_mul_right h3 (Nat.mul_pos hg hk)
end Go.Proofs.YtjcjchapfiokeaaDoor
