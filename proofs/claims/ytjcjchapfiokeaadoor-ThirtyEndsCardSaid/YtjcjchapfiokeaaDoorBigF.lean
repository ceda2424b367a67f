/- Fractions, the document's and the program's: small functions. Conditions: sizes far below the machine's. -/
import Derived.Test.YtjcjchapfiokeaaDoorBigD
import Derived.Test.YtjcjchapfiokeaaDoorThi
namespace Go.Proofs.YtjcjchapfiokeaaDoor
open Go.RowKit
set_option linter.unusedVariables false
set_option linter.unusedSimpArgs false
set_option maxRecDepth 100000 in
set_option maxHeartbeats 4000000 in
theorem bvalue_at (ba oa ca n la : Nat) (hn : n ≤ 4611686018427387904) (hla : Hid ((dg n).length = la)) (bla : la ≤ 1000) (w : World) (hba : ba < w.heap.size) (hca : ∀ j, j < la → w.cell? ⟨ba, oa + j, none⟩ = some (.int .i64 (pt n j))) : Calls Tryd.prog 86 #[.agg #[.slice (some ⟨ba, oa, none⟩) la ca]] w fun e w' => e = .returned (.int .i64 (n : Int)) ∧ Below w.heap.size w w' := by
  have s0 : IntKind.i64.wrap ((la : Int) - 1) = (la : Int) - 1 := IntWalk.i64_in _ (by omega)
  go_enter Tryd.func86, Tryd.ntmps86
  go_upto_region 1 with fail
  generalize hW : (w.alloc _) = w0
  have hB0 : Below w.heap.size w w0 := by rw [← hW]; exact below_al (Below.refl _ _)
  have ga : w0.cell? ⟨w.heap.size, 0, none⟩ = some (.slice (some ⟨ba, oa, none⟩) la ca) := by rw [← hW]; exact cell_nu rfl rfl
  have HCA : Hid (∀ j, j < la → w0.cell? ⟨ba, oa + j, none⟩ = some (.int .i64 (pt n j))) := Lib.hid (fun j hj => below_some hB0 _ _ _ (hca j hj))
  clear hW hca
  go_wp2_with fail
  go_loopw [3, 4] (fun v p wr => ∃ (k u : Nat), k ≤ la ∧ p = .int .i64 ((k : Int) - 1) ∧ v = .int .i64 (u : Int) ∧ Hid (u = n / 10000 ^ k) ∧ wr = w0) (fun _ p _ => (intOf p + 1).toNat)
  case atStart => exact ⟨la, 0, Nat.le_refl _, rfl, rfl, Lib.hid (by rw [dg_high (by rw [hla.out]; omega)]), rfl⟩
  case round =>
    obtain ⟨k, u, hk, rfl, rfl, hU, rfl⟩ := hrel
    cases k with
    | zero =>
      have HE : Hid ((u : Int) = (n : Int)) := Lib.hid (by have h := hU.out; simp at h; rw [h])
      go_wp2_with fail
      go_ret
      exact ⟨by rw [← HE.out]; rfl, hB0⟩
    | succ k =>
      have e0 : ((k + 1 : Nat) : Int) - 1 = (k : Int) := by omega
      rw [e0]
      have kz : decide ((0 : Int) ≤ (k : Int)) = true := decide_eq_true (by omega)
      have kz0 : (0 : Int) ≤ (k : Int) := by omega
      have kzl : (k : Int) < (la : Int) := by omega
      have s1 : IntKind.i64.wrap ((k : Int) - 1) = (k : Int) - 1 := IntWalk.i64_in _ (by omega)
      have gx := HCA.out k (by omega)
      have HX : ∃ x, pt n k = x := ⟨_, rfl⟩
      obtain ⟨x, hx⟩ := HX
      have xb := pt_bd n k; rw [hx] at xb gx
      have hst := part_step n k; rw [hx, ← hU.out] at hst
      have hle : n / 10000 ^ k ≤ n := Nat.div_le_self _ _
      obtain ⟨u2, hu2⟩ : ∃ u2, n / 10000 ^ k = u2 := ⟨_, rfl⟩
      rw [hu2] at hst hle
      have t1 : IntKind.i64.wrap (10000 * (u : Int)) = 10000 * (u : Int) := IntWalk.i64_in _ (by omega)
      have t2 : IntKind.i64.wrap (10000 * (u : Int) + x) = (u2 : Int) := by rw [← hst]; exact IntWalk.i64_in _ (by omega)
      have HU2 := Lib.hid hu2.symm; have HX := Lib.hid hx; clear hx hu2 hst
      go_wp2_with fail
      go_roundw
      case rel => exact ⟨k, u2, by omega, rfl, rfl, HU2, by first | trivial | rfl⟩
      case measure => simp [intOf] <;> omega
set_option maxHeartbeats 4000000 in
theorem bvalue_nil (A : Option Addr) (ca : Nat) (w : World) : Calls Tryd.prog 86 #[.agg #[.slice A 0 ca]] w fun e w' => e = .returned (.int .i64 0) ∧ Below w.heap.size w w' := by
  have hB : Below w.heap.size w w := Below.refl _ _
  go_enter Tryd.func86, Tryd.ntmps86
  go_wp2_with fail
  refine wp_loop_rounds 1 ?_
  rw [rounds_succ]
  go_wp2_with fail
  go_ret
  exact ⟨rfl, by repeat (first | assumption | exact Below.refl _ _ | (with_reducible refine Below.drew ?_) | (with_reducible refine below_drewN' ?_ _) | (with_reducible refine below_al ?_) | ((with_reducible refine below_set ?_ ?_); rotate_left; focus (first | (simp; done) | (simp; omega))))⟩
theorem bvalue_c (A : Option Addr) (ca n la : Nat) (hn : n ≤ 4611686018427387904) (hla : Hid ((dg n).length = la)) (bla : la ≤ 1000) (w : World) (ha : DIn w A (dg n)) : Calls Tryd.prog 86 #[.agg #[.slice A la ca]] w fun e w' => e = .returned (.int .i64 (n : Int)) ∧ Below w.heap.size w w' := by
  rcases ha with h | ⟨ba, oa, rfl, hba, hca⟩
  · have h0 : la = 0 := by rw [← hla.out, h]; rfl
    have hn0 : n = 0 := dg_nil.1 (by rw [h]; rfl)
    subst h0 hn0
    exact bvalue_nil A ca w
  · exact bvalue_at ba oa ca n la hn hla bla w hba (fun j hj => by rw [hca j (by rw [hla.out]; exact hj), pt_at])
/-! The document's test whether a fraction is right. -/
theorem divides_c (d n : Int) (v : Bool) (h0 : ¬ d = 0) (hv : (n.tmod d == 0) = v) (w : World) : Calls Tryd.prog 71 #[.int .i64 d, .int .i64 n] w fun e w' => e = .returned (.bool v) ∧ w = w' := by
  go_enter Tryd.func71, Tryd.ntmps71
  go_wp2_with fail
  go_ret
  exact ⟨rfl, rfl⟩
end Go.Proofs.YtjcjchapfiokeaaDoor
