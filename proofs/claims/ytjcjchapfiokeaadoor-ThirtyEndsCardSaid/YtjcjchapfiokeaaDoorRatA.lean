/- Fractions of the program: the greatest common divisor. Conditions: none. -/
import Derived.Test.YtjcjchapfiokeaaDoorOwn
import Derived.IntWalk
import Derived.WalkMore
import Derived.ScopeJumps
namespace Go.Proofs.YtjcjchapfiokeaaDoor
open Go.RowKit
set_option linter.unusedVariables false
set_option linter.unusedSimpArgs false
theorem rem_nat (x y : Nat) : ((x : Int)).tmod (y : Int) = ((x % y : Nat) : Int) := by rw [Int.tmod_eq_emod_of_nonneg (by omega)]; simp
theorem gcd_turn (x y : Nat) : Nat.gcd y (x % y) = Nat.gcd x y := by rw [Nat.gcd_comm x y, Nat.gcd_rec y x, Nat.gcd_comm]
set_option maxRecDepth 100000 in
theorem gcd_c (n m : Nat) (hn : n < 18446744073709551616) (hm : m < 18446744073709551616) (w : World) : Calls Tryd.prog 94 #[.int .u64 (n : Int), .int .u64 (m : Int)] w fun e w' => e = .returned (.int .u64 (Nat.gcd n m : Nat)) ∧ Below w.heap.size w w' := by
  go_enter Tryd.func94, Tryd.ntmps94
  go_wp2_with fail
  refine wp_scope_jumps 0 (fun a' w' => Below w.heap.size w w' ∧ ∃ (x y : Nat) (u5 u6 u7 u8 u9 u10 u11 : Value), a' = { tmps := #[.int .u64 (x : Int), .int .u64 (y : Int), undef, undef, .int .u64 0, u5, u6, u7, u8, u9, u10, u11], defers := [] } ∧ Nat.gcd x y = Nat.gcd n m ∧ x < 18446744073709551616 ∧ y < 18446744073709551616) (fun a' _ => (intOf (a'.tmps.getD 1 undef)).toNat) rfl ?_ ?_
  · by_cases h0 : m = 0
    · subst h0
      skip
      go_wp2_with fail
      go_step3
      go_wp2_with fail
      simp only [Exit.jump]
      go_ret
      exact ⟨by rw [Nat.gcd_zero_right]; rfl, Below.refl _ _⟩
    · have q1 : ((m : Int) == 0) = false := beq_eq_false_iff_ne.2 (by omega)
      have q2 : ¬ ((m : Int) = 0) := by omega
      have q3 := rem_nat n m
      have q5 := Nat.mod_lt n (Nat.pos_of_ne_zero h0)
      have q6 := gcd_turn n m
      have q4 : IntKind.u64.wrap ((n % m : Nat) : Int) = ((n % m : Nat) : Int) := IntWalk.u64_in _ (by omega)
      generalize n % m = r at *
      go_wp2_with fail
      go_step3
      go_wp2_with fail
      go_region
      go_wp2_with fail
      go_step3
      refine And.intro rfl ?_
      exact ⟨(Below.refl _ _).drew, _, _, _, _, _, _, _, _, _, rfl, q6, by omega, by omega⟩
  · rintro a' w' ⟨hB, x, y, u5, u6, u7, u8, u9, u10, u11, rfl, hg, hx, hy⟩
    by_cases h0 : y = 0
    · subst h0
      rw [Nat.gcd_zero_right] at hg; subst hg
      go_wp2_with fail
      simp only [Exit.jump]
      go_ret
      exact ⟨rfl, hB⟩
    · have q1 : ((y : Int) == 0) = false := beq_eq_false_iff_ne.2 (by omega)
      have q2 : ¬ ((y : Int) = 0) := by omega
      have q3 := rem_nat x y
      have q5 := Nat.mod_lt x (Nat.pos_of_ne_zero h0)
      have q6 := gcd_turn x y
      have q4 : IntKind.u64.wrap ((x % y : Nat) : Int) = ((x % y : Nat) : Int) := IntWalk.u64_in _ (by omega)
      generalize x % y = r at *
      go_wp2_with fail
      go_region
      go_wp2_with fail
      go_step3
      refine And.intro rfl ?_
      exact ⟨⟨hB.drew, _, _, _, _, _, _, _, _, _, rfl, q6.trans hg, by omega, by omega⟩, by simp [intOf]; omega⟩
end Go.Proofs.YtjcjchapfiokeaaDoor
