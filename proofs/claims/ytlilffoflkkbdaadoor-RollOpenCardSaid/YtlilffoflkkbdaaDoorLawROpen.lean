/- The walk of RollOpen: the law returns true for every input. Conditions: the tables of months' lengths and of the ways' names lie as the program's text lays them. -/
import Derived.Test.YtlilffoflkkbdaaDoorROpA
import Derived.Test.YtlilffoflkkbdaaDoorROpB
import Derived.Test.YtlilffoflkkbdaaDoorROpC
import Derived.Test.YtlilffoflkkbdaaDoorROpD
namespace Go.Proofs.YtlilffoflkkbdaaDoor
open Go.RowKit
set_option linter.unusedVariables false
theorem rl_stay {c : CalP} {n : Int} (h1 : 1 ≤ n) (h2 : n ≤ 3652059) : rl c n 0 = (n, 0) := by unfold rl; rw [if_pos rfl, if_pos (dayB_in h1 h2)]
theorem rollOpen_walk (n v q : Int) (hv : 0 ≤ v ∧ v ≤ 255) (hq : 0 ≤ q ∧ q ≤ 255) (w : World) (hL : Laid w) (hN : Named w) : Calls Tryd.prog 7 #[.int .i64 n, .int .u8 v, .int .u8 q] w fun e w' => e = .returned (.bool true) ∧ Below w.heap.size w w' := by
  by_cases h1 : n < 7
  · exact rollOpen_lo n v q h1 w hL hN
  by_cases h2 : 3652052 < n
  · exact rollOpen_hi n v q (by omega) h2 w hL hN
  have n1 : 7 ≤ n := by omega
  have n2 : n ≤ 3652052 := by omega
  obtain ⟨v1, v2⟩ := hv
  obtain ⟨q1, q2⟩ := hq
  obtain ⟨k, hk⟩ : ∃ k, q % 5 = k := ⟨_, rfl⟩
  have k1 : 0 ≤ k := by omega
  have k2 : k ≤ 4 := by omega
  have hvt : v.tmod 7 = v % 7 := Int.tmod_eq_emod_of_nonneg v1
  have hqt : q.tmod 5 = k := (Int.tmod_eq_emod_of_nonneg q1).trans hk
  have hd : v % 7 = 0 ∨ v % 7 = 1 ∨ v % 7 = 2 ∨ v % 7 = 3 ∨ v % 7 = 4 ∨ v % 7 = 5 ∨ v % 7 = 6 := by omega
  rcases hd with hd | hd | hd | hd | hd | hd | hd
  · obtain ⟨j, j1, j2, hb, e1⟩ := one_up 0 n (by decide) (by decide) n1 n2
    obtain ⟨i, i1, i2, hp, e2⟩ := one_dn 0 n (by decide) (by decide) n1 n2
    by_cases k0 : k = 0
    · exact rollOpen_0A n v q v1 v2 q1 q2 n1 n2 k (n + j) (n - i) n k1 k2 (hvt.trans hd) hqt (by omega) (by omega) (by omega) (by omega) hb hp (show rl (oneC 0) n k = (n, 0) by rw [k0]; exact rl_stay (by omega) (by omega)) e1 e2 k0 rfl w hL hN
    · rcases rl_cases (oneC 0) n k k1 k2 with ⟨h, _⟩ | h | h
      · exact absurd h k0
      · exact rollOpen_0B n v q v1 v2 q1 q2 n1 n2 k (n + j) (n - i) (n + j) k1 k2 (hvt.trans hd) hqt (by omega) (by omega) (by omega) (by omega) hb hp (h.trans hb) e1 e2 k0 rfl w hL hN
      · by_cases e : n - i = n + j
        · exact rollOpen_0B n v q v1 v2 q1 q2 n1 n2 k (n + j) (n - i) (n + j) k1 k2 (hvt.trans hd) hqt (by omega) (by omega) (by omega) (by omega) hb hp (h.trans (hp.trans (by rw [e]))) e1 e2 k0 rfl w hL hN
        · exact rollOpen_0C n v q v1 v2 q1 q2 n1 n2 k (n + j) (n - i) (n - i) k1 k2 (hvt.trans hd) hqt (by omega) (by omega) (by omega) (by omega) hb hp (h.trans hp) e1 e2 k0 rfl e w hL hN
  · obtain ⟨j, j1, j2, hb, e1⟩ := one_up 1 n (by decide) (by decide) n1 n2
    obtain ⟨i, i1, i2, hp, e2⟩ := one_dn 1 n (by decide) (by decide) n1 n2
    by_cases k0 : k = 0
    · exact rollOpen_1A n v q v1 v2 q1 q2 n1 n2 k (n + j) (n - i) n k1 k2 (hvt.trans hd) hqt (by omega) (by omega) (by omega) (by omega) hb hp (show rl (oneC 1) n k = (n, 0) by rw [k0]; exact rl_stay (by omega) (by omega)) e1 e2 k0 rfl w hL hN
    · rcases rl_cases (oneC 1) n k k1 k2 with ⟨h, _⟩ | h | h
      · exact absurd h k0
      · exact rollOpen_1B n v q v1 v2 q1 q2 n1 n2 k (n + j) (n - i) (n + j) k1 k2 (hvt.trans hd) hqt (by omega) (by omega) (by omega) (by omega) hb hp (h.trans hb) e1 e2 k0 rfl w hL hN
      · by_cases e : n - i = n + j
        · exact rollOpen_1B n v q v1 v2 q1 q2 n1 n2 k (n + j) (n - i) (n + j) k1 k2 (hvt.trans hd) hqt (by omega) (by omega) (by omega) (by omega) hb hp (h.trans (hp.trans (by rw [e]))) e1 e2 k0 rfl w hL hN
        · exact rollOpen_1C n v q v1 v2 q1 q2 n1 n2 k (n + j) (n - i) (n - i) k1 k2 (hvt.trans hd) hqt (by omega) (by omega) (by omega) (by omega) hb hp (h.trans hp) e1 e2 k0 rfl e w hL hN
  · obtain ⟨j, j1, j2, hb, e1⟩ := one_up 2 n (by decide) (by decide) n1 n2
    obtain ⟨i, i1, i2, hp, e2⟩ := one_dn 2 n (by decide) (by decide) n1 n2
    by_cases k0 : k = 0
    · exact rollOpen_2A n v q v1 v2 q1 q2 n1 n2 k (n + j) (n - i) n k1 k2 (hvt.trans hd) hqt (by omega) (by omega) (by omega) (by omega) hb hp (show rl (oneC 2) n k = (n, 0) by rw [k0]; exact rl_stay (by omega) (by omega)) e1 e2 k0 rfl w hL hN
    · rcases rl_cases (oneC 2) n k k1 k2 with ⟨h, _⟩ | h | h
      · exact absurd h k0
      · exact rollOpen_2B n v q v1 v2 q1 q2 n1 n2 k (n + j) (n - i) (n + j) k1 k2 (hvt.trans hd) hqt (by omega) (by omega) (by omega) (by omega) hb hp (h.trans hb) e1 e2 k0 rfl w hL hN
      · by_cases e : n - i = n + j
        · exact rollOpen_2B n v q v1 v2 q1 q2 n1 n2 k (n + j) (n - i) (n + j) k1 k2 (hvt.trans hd) hqt (by omega) (by omega) (by omega) (by omega) hb hp (h.trans (hp.trans (by rw [e]))) e1 e2 k0 rfl w hL hN
        · exact rollOpen_2C n v q v1 v2 q1 q2 n1 n2 k (n + j) (n - i) (n - i) k1 k2 (hvt.trans hd) hqt (by omega) (by omega) (by omega) (by omega) hb hp (h.trans hp) e1 e2 k0 rfl e w hL hN
  · obtain ⟨j, j1, j2, hb, e1⟩ := one_up 3 n (by decide) (by decide) n1 n2
    obtain ⟨i, i1, i2, hp, e2⟩ := one_dn 3 n (by decide) (by decide) n1 n2
    by_cases k0 : k = 0
    · exact rollOpen_3A n v q v1 v2 q1 q2 n1 n2 k (n + j) (n - i) n k1 k2 (hvt.trans hd) hqt (by omega) (by omega) (by omega) (by omega) hb hp (show rl (oneC 3) n k = (n, 0) by rw [k0]; exact rl_stay (by omega) (by omega)) e1 e2 k0 rfl w hL hN
    · rcases rl_cases (oneC 3) n k k1 k2 with ⟨h, _⟩ | h | h
      · exact absurd h k0
      · exact rollOpen_3B n v q v1 v2 q1 q2 n1 n2 k (n + j) (n - i) (n + j) k1 k2 (hvt.trans hd) hqt (by omega) (by omega) (by omega) (by omega) hb hp (h.trans hb) e1 e2 k0 rfl w hL hN
      · by_cases e : n - i = n + j
        · exact rollOpen_3B n v q v1 v2 q1 q2 n1 n2 k (n + j) (n - i) (n + j) k1 k2 (hvt.trans hd) hqt (by omega) (by omega) (by omega) (by omega) hb hp (h.trans (hp.trans (by rw [e]))) e1 e2 k0 rfl w hL hN
        · exact rollOpen_3C n v q v1 v2 q1 q2 n1 n2 k (n + j) (n - i) (n - i) k1 k2 (hvt.trans hd) hqt (by omega) (by omega) (by omega) (by omega) hb hp (h.trans hp) e1 e2 k0 rfl e w hL hN
  · obtain ⟨j, j1, j2, hb, e1⟩ := one_up 4 n (by decide) (by decide) n1 n2
    obtain ⟨i, i1, i2, hp, e2⟩ := one_dn 4 n (by decide) (by decide) n1 n2
    by_cases k0 : k = 0
    · exact rollOpen_4A n v q v1 v2 q1 q2 n1 n2 k (n + j) (n - i) n k1 k2 (hvt.trans hd) hqt (by omega) (by omega) (by omega) (by omega) hb hp (show rl (oneC 4) n k = (n, 0) by rw [k0]; exact rl_stay (by omega) (by omega)) e1 e2 k0 rfl w hL hN
    · rcases rl_cases (oneC 4) n k k1 k2 with ⟨h, _⟩ | h | h
      · exact absurd h k0
      · exact rollOpen_4B n v q v1 v2 q1 q2 n1 n2 k (n + j) (n - i) (n + j) k1 k2 (hvt.trans hd) hqt (by omega) (by omega) (by omega) (by omega) hb hp (h.trans hb) e1 e2 k0 rfl w hL hN
      · by_cases e : n - i = n + j
        · exact rollOpen_4B n v q v1 v2 q1 q2 n1 n2 k (n + j) (n - i) (n + j) k1 k2 (hvt.trans hd) hqt (by omega) (by omega) (by omega) (by omega) hb hp (h.trans (hp.trans (by rw [e]))) e1 e2 k0 rfl w hL hN
        · exact rollOpen_4C n v q v1 v2 q1 q2 n1 n2 k (n + j) (n - i) (n - i) k1 k2 (hvt.trans hd) hqt (by omega) (by omega) (by omega) (by omega) hb hp (h.trans hp) e1 e2 k0 rfl e w hL hN
  · obtain ⟨j, j1, j2, hb, e1⟩ := one_up 5 n (by decide) (by decide) n1 n2
    obtain ⟨i, i1, i2, hp, e2⟩ := one_dn 5 n (by decide) (by decide) n1 n2
    by_cases k0 : k = 0
    · exact rollOpen_5A n v q v1 v2 q1 q2 n1 n2 k (n + j) (n - i) n k1 k2 (hvt.trans hd) hqt (by omega) (by omega) (by omega) (by omega) hb hp (show rl (oneC 5) n k = (n, 0) by rw [k0]; exact rl_stay (by omega) (by omega)) e1 e2 k0 rfl w hL hN
    · rcases rl_cases (oneC 5) n k k1 k2 with ⟨h, _⟩ | h | h
      · exact absurd h k0
      · exact rollOpen_5B n v q v1 v2 q1 q2 n1 n2 k (n + j) (n - i) (n + j) k1 k2 (hvt.trans hd) hqt (by omega) (by omega) (by omega) (by omega) hb hp (h.trans hb) e1 e2 k0 rfl w hL hN
      · by_cases e : n - i = n + j
        · exact rollOpen_5B n v q v1 v2 q1 q2 n1 n2 k (n + j) (n - i) (n + j) k1 k2 (hvt.trans hd) hqt (by omega) (by omega) (by omega) (by omega) hb hp (h.trans (hp.trans (by rw [e]))) e1 e2 k0 rfl w hL hN
        · exact rollOpen_5C n v q v1 v2 q1 q2 n1 n2 k (n + j) (n - i) (n - i) k1 k2 (hvt.trans hd) hqt (by omega) (by omega) (by omega) (by omega) hb hp (h.trans hp) e1 e2 k0 rfl e w hL hN
  · obtain ⟨j, j1, j2, hb, e1⟩ := one_up 6 n (by decide) (by decide) n1 n2
    obtain ⟨i, i1, i2, hp, e2⟩ := one_dn 6 n (by decide) (by decide) n1 n2
    by_cases k0 : k = 0
    · exact rollOpen_6A n v q v1 v2 q1 q2 n1 n2 k (n + j) (n - i) n k1 k2 (hvt.trans hd) hqt (by omega) (by omega) (by omega) (by omega) hb hp (show rl (oneC 6) n k = (n, 0) by rw [k0]; exact rl_stay (by omega) (by omega)) e1 e2 k0 rfl w hL hN
    · rcases rl_cases (oneC 6) n k k1 k2 with ⟨h, _⟩ | h | h
      · exact absurd h k0
      · exact rollOpen_6B n v q v1 v2 q1 q2 n1 n2 k (n + j) (n - i) (n + j) k1 k2 (hvt.trans hd) hqt (by omega) (by omega) (by omega) (by omega) hb hp (h.trans hb) e1 e2 k0 rfl w hL hN
      · by_cases e : n - i = n + j
        · exact rollOpen_6B n v q v1 v2 q1 q2 n1 n2 k (n + j) (n - i) (n + j) k1 k2 (hvt.trans hd) hqt (by omega) (by omega) (by omega) (by omega) hb hp (h.trans (hp.trans (by rw [e]))) e1 e2 k0 rfl w hL hN
        · exact rollOpen_6C n v q v1 v2 q1 q2 n1 n2 k (n + j) (n - i) (n - i) k1 k2 (hvt.trans hd) hqt (by omega) (by omega) (by omega) (by omega) hb hp (h.trans hp) e1 e2 k0 rfl e w hL hN
end Go.Proofs.YtlilffoflkkbdaaDoor
