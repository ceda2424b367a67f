/- Fractions of the document: whether one is in lowest terms. -/
import Derived.Test.YtjcjchapfiokeaaDoorBigG
namespace Go.Proofs.YtjcjchapfiokeaaDoor
open Go.RowKit
set_option linter.unusedVariables false
set_option linter.unusedSimpArgs false
/-- Whether n over d is a fraction in lowest terms within the bounds. -/
def rightB (n d : Int) : Bool := decide (0 ≤ n) && decide (n ≤ 4611686018427387904) && decide (1 ≤ d) && decide (d ≤ 4611686018427387904) && decide (Nat.gcd n.toNat d.toNat = 1)
theorem one_tmod (g : Nat) (h : 0 < g) : ((1 : Int).tmod (g : Int) == 0) = decide (g = 1) := by
  rw [Int.tmod_eq_emod_of_nonneg (by omega)]
  by_cases h1 : g = 1
  · subst h1; rfl
  · have e : (1 : Int) % (g : Int) = 1 := Int.emod_eq_of_lt (by omega) (by omega)
    rw [e, decide_eq_false h1]; rfl
set_option maxRecDepth 100000 in
set_option maxHeartbeats 8000000 in
theorem right_c (n d : Nat) (hn : n ≤ 4611686018427387904) (hd : 0 < d) (hd2 : d ≤ 4611686018427387904) (w : World) : Calls Tryd.prog 38 #[.agg #[.int .i64 (n : Int), .int .i64 (d : Int)]] w fun e w' => e = .returned (.bool (decide (Nat.gcd n d = 1))) ∧ Below w.heap.size w w' := by
  have d1 : decide ((n : Int) < 0) = false := decide_eq_false (by omega)
  have d2 : decide ((4611686018427387904 : Int) < (n : Int)) = false := decide_eq_false (by omega)
  have d3 : decide ((d : Int) < 1) = false := decide_eq_false (by omega)
  have d4 : decide ((4611686018427387904 : Int) < (d : Int)) = false := decide_eq_false (by omega)
  go_enter Tryd.func38, Tryd.ntmps38
  go_upto_region 5 with fail
  generalize hW : (w.alloc _) = w0
  have hB0 := Lib.hid (show Below w.heap.size w w0 by rw [← hW]; exact below_al (Below.refl _ _))
  clear hW
  go_wp2_with fail
  go_loopw [3, 4] (fun x y wr => ∃ a b : Nat, x = .int .i64 (a : Int) ∧ y = .int .i64 (b : Int) ∧ a ≤ 4611686018427387904 ∧ b ≤ 4611686018427387904 ∧ Hid (Nat.gcd a b = Nat.gcd n d) ∧ wr = w0) (fun _ y _ => (intOf y).toNat)
  case atStart => exact ⟨n, d, rfl, rfl, hn, hd2, Lib.hid rfl, rfl⟩
  case round =>
    obtain ⟨a, b, rfl, rfl, ha, hb, hG, rfl⟩ := hrel
    by_cases hb0 : b = 0
    · subst hb0
      have e1 := hG.out
      rw [Nat.gcd_zero_right] at e1
      go_wp2_with fail
      have gp : 0 < Nat.gcd n d := Nat.gcd_pos_of_pos_right n hd
      refine (divides_c (Nat.gcd n d : Int) 1 (decide (Nat.gcd n d = 1)) (by omega) (one_tmod _ gp) _).mono ?_
      rintro e wq ⟨rfl, rfl⟩
      go_wp2_with fail
      refine bodyPost_ret (v := .bool (decide (Nat.gcd n d = 1))) (by simp [results, Tryd.results38, go_sem]) rfl ?_
      exact ⟨rfl, hB0.out⟩
    · have q1 : decide ((0 : Int) < (b : Int)) = true := decide_eq_true (by omega)
      have q2 : ¬ ((b : Int) = 0) := by omega
      have q3 : ((a : Int)).tmod (b : Int) = ((a % b : Nat) : Int) := by rw [Int.tmod_eq_emod_of_nonneg (by omega)]; simp
      have hlt := Nat.mod_lt a (Nat.pos_of_ne_zero hb0)
      have q4 : IntKind.i64.wrap ((a % b : Nat) : Int) = ((a % b : Nat) : Int) := IntWalk.i64_in _ (by omega)
      obtain ⟨r, hr⟩ : ∃ r : Nat, a % b = r := ⟨_, rfl⟩
      rw [hr] at q3 q4 hlt
      have HG : Hid (Nat.gcd b r = Nat.gcd n d) := Lib.hid (by rw [← hG.out, ← hr, Nat.gcd_comm a b, Nat.gcd_rec b a, Nat.gcd_comm])
      clear hr
      go_wp2_with fail
      go_roundw
      case rel => exact ⟨b, r, rfl, rfl, hb, by omega, HG, trivial⟩
      case measure => simp [intOf]; omega
end Go.Proofs.YtjcjchapfiokeaaDoor
