/- The contracts of the layer of Easter: the program's and the document's. Conditions: the table of months' lengths lies as the program's text lays it. -/
import Derived.Test.YtlilffoflkkbdaaDoorCivF
import Derived.Test.YtlilffoflkkbdaaDoorEas
import Derived.Laws.EntriesVeiled
namespace Go.Proofs.YtlilffoflkkbdaaDoor
open Go.RowKit
set_option linter.unusedVariables false

theorem eas_q2 (a b : Int) (a1 : 0 ≤ a) (b1 : 0 ≤ b) : 0 ≤ 19 * a + b - b / 4 - (b - (b + 8) / 25 + 1) / 3 + 15 := by
  have : (b - (b + 8) / 25 + 1) / 3 ≤ (b + 1) / 3 := by omega
  omega
theorem eas_q3 (b c h : Int) (b1 : 0 ≤ b) (c1 : 0 ≤ c) (h2 : h ≤ 29) : 0 ≤ 32 + 2 * (b % 4) + 2 * (c / 4) - h - c % 4 := by omega
theorem easter_no (y : Int) (w : World) (h : y < 1 ∨ 9999 < y) : Calls Tryd.prog 108 #[.int .i64 y] w fun e w' => e = .returned (.tuple #[.int .i64 0, .int .i64 3]) ∧ Below w.heap.size w w' := by
  rcases h with h | h
  · go_enter Tryd.func108, Tryd.ntmps108
    go_wp2
    go_ret2
    exact ⟨rfl, Below.refl _ _⟩
  · have h' : ¬ y < 1 := by omega
    go_enter Tryd.func108, Tryd.ntmps108
    go_wp2
    go_ret2
    exact ⟨rfl, Below.refl _ _⟩

set_option maxRecDepth 100000 in
set_option maxHeartbeats 1000000 in
theorem easter_yes (y : Int) (h1 : 1 ≤ y) (h2 : y ≤ 9999) (w : World) (hL : Laid w) : Calls Tryd.prog 108 #[.int .i64 y] w fun e w' => e = .returned (.tuple #[.int .i64 (Eas.eday y), .int .i64 0]) ∧ Below w.heap.size w w' := by
  have hmf : ∀ (fn : Fn) (first cap : Array Value) (w : World), (Instr.makeFunc fn first cap).run Tryd.prog w = .ok (.func fn first cap) w := fun _ _ _ _ => rfl
  have i0 : ∀ (f g h : Value) (w : World), (Instr.index 141 (.agg #[f, g, h]) (.int .i64 0)).run Tryd.prog w = .ok f w := fun _ _ _ _ => by kernel_rfl
  have i1 : ∀ (f g h : Value) (w : World), (Instr.index 141 (.agg #[f, g, h]) (.int .i64 1)).run Tryd.prog w = .ok g w := fun _ _ _ _ => by kernel_rfl
  have i2 : ∀ (f g h : Value) (w : World), (Instr.index 141 (.agg #[f, g, h]) (.int .i64 2)).run Tryd.prog w = .ok h w := fun _ _ _ _ => by kernel_rfl
  obtain ⟨a, ha⟩ : ∃ a, y % 19 = a := ⟨_, rfl⟩
  obtain ⟨b, hb⟩ : ∃ b, y / 100 = b := ⟨_, rfl⟩
  obtain ⟨c, hc⟩ : ∃ c, y % 100 = c := ⟨_, rfl⟩
  have a1 : 0 ≤ a ∧ a ≤ 18 := by omega
  have b1 : 0 ≤ b ∧ b ≤ 99 := by omega
  have c1 : 0 ≤ c ∧ c ≤ 99 := by omega
  obtain ⟨a1, a2⟩ := a1
  obtain ⟨b1, b2⟩ := b1
  obtain ⟨c1, c2⟩ := c1
  obtain ⟨h, hh⟩ : ∃ h, (19 * a + b - b / 4 - (b - (b + 8) / 25 + 1) / 3 + 15) % 30 = h := ⟨_, rfl⟩
  obtain ⟨e1, e2⟩ : 0 ≤ h ∧ h ≤ 29 := by omega
  obtain ⟨l, hl⟩ : ∃ l, (32 + 2 * (b % 4) + 2 * (c / 4) - h - c % 4) % 7 = l := ⟨_, rfl⟩
  obtain ⟨f1, f2⟩ : 0 ≤ l ∧ l ≤ 6 := by omega
  obtain ⟨m, hm⟩ : ∃ m, (a + 11 * h + 22 * l) / 451 = m := ⟨_, rfl⟩
  obtain ⟨g1, g2⟩ : 0 ≤ m ∧ m ≤ 1 := by omega
  have hn : Eas.nn y = h + l - 7 * m + 114 := by
    have k1 : Eas.hh y = h := by unfold Eas.hh; rw [ha, hb]; exact hh
    have k2 : Eas.ll y = l := by unfold Eas.ll; rw [hb, hc, k1]; exact hl
    have k3 : Eas.mm y = m := by unfold Eas.mm; rw [ha, k1, k2]; exact hm
    unfold Eas.nn; rw [k1, k2, k3]
  have ME := Eas.may_eday y h1 h2
  have NB := Eas.nn_bd y
  have HE : Hid (Cal.num y ((h + l - 7 * m + 114) / 31) ((h + l - 7 * m + 114) % 31 + 1) = Eas.eday y) := by unfold Eas.eday; rw [hn]; exact rfl
  rw [hn] at ME NB
  obtain ⟨nb1, nb2⟩ := NB
  have HM := Lib.hid ME; clear ME hn
  have q2 := eas_q2 a b a1 b1
  have q3 := eas_q3 b c h b1 c1 e2
  go_enter Tryd.func108, Tryd.ntmps108
  go_wp2
  refine wp_loop_rounds 4 ?_
  rw [rounds_succ]
  go_wp2
  go_end0
  go_wp2
  rw [rounds_succ]
  go_wp2
  go_end0
  go_wp2
  rw [rounds_succ]
  go_wp2
  go_end0
  go_wp2
  rw [rounds_succ]
  go_wp2_with fail
  have hB : Below w.heap.size w w := Below.refl _ _
  refine (number_yes _ _ _ _ (hL.below (by repeat (first | assumption | exact Below.refl _ _ | (with_reducible refine Below.drew ?_) | (with_reducible refine below_drewN' ?_ _) | (with_reducible refine below_al ?_) | ((with_reducible refine below_set ?_ ?_); rotate_left; focus (first | (simp; done) | (simp; omega)))))) HM.out).mono ?_; rintro e w1 ⟨rfl, hb⟩
  have hB1 := below_step (w := w) hb (by repeat (first | assumption | exact Below.refl _ _ | (with_reducible refine Below.drew ?_) | (with_reducible refine below_drewN' ?_ _) | (with_reducible refine below_al ?_) | ((with_reducible refine below_set ?_ ?_); rotate_left; focus (first | (simp; done) | (simp; omega)))))
  rw [HE.out]
  go_wp2_with fail
  go_ret2
  exact ⟨rfl, hB1⟩

def easV (y : Int) : Int := if 1 ≤ y ∧ y ≤ 9999 then Eas.eday y else 0
def easE (y : Int) : Int := if 1 ≤ y ∧ y ≤ 9999 then 0 else 3
theorem eas_in {y : Int} (h1 : 1 ≤ y) (h2 : y ≤ 9999) : easV y = Eas.eday y ∧ easE y = 0 := by simp [easV, easE, h1, h2]
theorem eas_out {y : Int} (h : y < 1 ∨ 9999 < y) : easV y = 0 ∧ easE y = 3 := by
  have k : ¬ (1 ≤ y ∧ y ≤ 9999) := by omega
  exact ⟨if_neg k, if_neg k⟩
theorem easter_c (y : Int) (w : World) (hL : Laid w) : Calls Tryd.prog 108 #[.int .i64 y] w fun e w' => e = .returned (.tuple #[.int .i64 (easV y), .int .i64 (easE y)]) ∧ Below w.heap.size w w' := by
  by_cases h : 1 ≤ y ∧ y ≤ 9999
  · obtain ⟨h1, h2⟩ := eas_in h.1 h.2; rw [h1, h2]; exact easter_yes y h.1 h.2 w hL
  · obtain ⟨h1, h2⟩ := eas_out (y := y) (by omega); rw [h1, h2]; exact easter_no y w (by omega)

theorem rest_c (n : Int) (n1 : -1000 ≤ n) (n2 : n ≤ 1000) (w : World) : Calls Tryd.prog 106 #[.int .i64 n, .int .i64 30] w fun e w' => e = .returned (.int .i64 (n % 30)) ∧ w = w' := by
  have h := Int.tmod_eq_emod (a := n) (b := 30)
  have k : -29 ≤ n.tmod 30 ∧ n.tmod 30 ≤ 29 ∧ (n.tmod 30) % 30 = n % 30 := by rw [h]; split <;> omega
  clear h
  obtain ⟨k1, k2, k3⟩ := k
  have K := Lib.hid k3; clear k3
  go_enter Tryd.func106, Tryd.ntmps106
  go_wp2
  go_ret
  exact ⟨ret_int (by rw [← K.out]; omega), rfl⟩
end Go.Proofs.YtlilffoflkkbdaaDoor
