/- The walk of IsoNext: the law returns true for every input. Conditions: the table of months' lengths lies as the program's text lays it. -/
import Derived.Test.YtmaocplnikijnaaDoorLawIBack
import Derived.Laws.Strings3
import Derived.IntWalk
namespace Go.Proofs.YtmaocplnikijnaaDoor
open Go.RowKit
set_option linter.unusedVariables false
namespace Iso
theorem txs_head {n : Int} (h1 : 1 ≤ n) (h2 : n ≤ 3652059) : (txs n).extract 0 8 = ⟨(head (Cal.yOf n) (Cal.mOf n)).toArray⟩ := by
  rw [txs_in h1 h2, ByteArray.extract_mk]; rfl
theorem txs_idx {n : Int} (h1 : 1 ≤ n) (h2 : n ≤ 3652059) : ch (txs n).data.toList 8 = 48 + Cal.dOf n / 10 ∧ ch (txs n).data.toList 9 = 48 + Cal.dOf n % 10 := by
  rw [txs_in h1 h2]
  have B := bd_of n h1 h2
  have := B.d1; have := B.d2
  have a8 : ch (⟨(tx n).toArray⟩ : ByteArray).data.toList 8 = 48 + Cal.dOf n / 10 % 10 := dg_nat _
  have a9 : ch (⟨(tx n).toArray⟩ : ByteArray).data.toList 9 = 48 + Cal.dOf n % 10 := dg_nat _
  rw [a8, a9]; omega
end Iso
def Idx (n i v : Int) : Prop := ∀ W : World, (Instr.index 9 (.string (txs n)) (.int .i64 i)).run Tryd.prog W = .ok (.int .u8 v) W
def Hd (n : Int) (H : List UInt8) : Prop := ∀ W : World, (Instr.slice 9 (.string (txs n)) none (some (.int .i64 8)) none).run Tryd.prog W = .ok (.string ⟨H.toArray⟩) W
theorem idx8 {n : Int} (h1 : 1 ≤ n) (h2 : n ≤ 3652059) : Idx n 8 (48 + Cal.dOf n / 10) := fun W => by
  rw [← (Iso.txs_idx h1 h2).1]; exact idx_at (txs n) 8 (by rw [(Iso.txs_read h1 h2).2.2]; decide) W
theorem idx9 {n : Int} (h1 : 1 ≤ n) (h2 : n ≤ 3652059) : Idx n 9 (48 + Cal.dOf n % 10) := fun W => by
  rw [← (Iso.txs_idx h1 h2).2]; exact idx_at (txs n) 9 (by rw [(Iso.txs_read h1 h2).2.2]; decide) W
theorem hd8 {n : Int} (h1 : 1 ≤ n) (h2 : n ≤ 3652059) : Hd n (Iso.head (Cal.yOf n) (Cal.mOf n)) := fun W => by
  have := run_slice_string_h (P := Tryd.prog) W 9 (txs n) Tryd.underlying9 .i64 8 (by decide) (by rw [(Iso.txs_read h1 h2).2.2]; decide)
  rw [this, ← Iso.txs_head h1 h2]; rfl
theorem isoNext_lo (n : Int) (h : n < 1) (w : World) (hL : Laid w) : Calls Tryd.prog 13 #[.int .i64 n] w fun e w' => e = .returned (.bool true) ∧ Below w.heap.size w w' := by
  have hB : Below w.heap.size w w := Below.refl _ _
  go_enter Tryd.func13, Tryd.ntmps13
  go_wp2_with fail
  refine (shown06_c _ (hL.below (by repeat (first | assumption | exact Below.refl _ _ | (with_reducible refine Below.drew ?_) | (with_reducible refine below_drewN' ?_ _) | (with_reducible refine below_al ?_) | ((with_reducible refine below_set ?_ ?_); rotate_left; focus (first | (simp; done) | (simp; omega))))))).mono ?_; rintro e w1 ⟨rfl, hb1⟩
  have hz1 := hb1.size; (try simp at hz1); obtain ⟨hc1, hf1⟩ := bcell hb1; have hB1 := below_step (w := w) hb1 (by repeat (first | assumption | exact Below.refl _ _ | (with_reducible refine Below.drew ?_) | (with_reducible refine below_drewN' ?_ _) | (with_reducible refine below_al ?_) | ((with_reducible refine below_set ?_ ?_); rotate_left; focus (first | (simp; done) | (simp; omega)))))
  have le_w_w1 : w.heap.size ≤ w1.heap.size := by omega
  try have lt_w_w1 : w.heap.size < w1.heap.size := by omega
  go_wp2_with fail
  go_ret
  exact ⟨rfl, by repeat (first | assumption | exact Below.refl _ _ | (with_reducible refine Below.drew ?_) | (with_reducible refine below_drewN' ?_ _) | (with_reducible refine below_al ?_) | ((with_reducible refine below_set ?_ ?_); rotate_left; focus (first | (simp; done) | (simp; omega))))⟩
theorem isoNext_hi (n : Int) (h : 3652059 ≤ n) (w : World) (hL : Laid w) : Calls Tryd.prog 13 #[.int .i64 n] w fun e w' => e = .returned (.bool true) ∧ Below w.heap.size w w' := by
  have h' : ¬ n < 1 := by omega
  have hB : Below w.heap.size w w := Below.refl _ _
  go_enter Tryd.func13, Tryd.ntmps13
  go_wp2_with fail
  refine (shown06_c _ (hL.below (by repeat (first | assumption | exact Below.refl _ _ | (with_reducible refine Below.drew ?_) | (with_reducible refine below_drewN' ?_ _) | (with_reducible refine below_al ?_) | ((with_reducible refine below_set ?_ ?_); rotate_left; focus (first | (simp; done) | (simp; omega))))))).mono ?_; rintro e w1 ⟨rfl, hb1⟩
  have hz1 := hb1.size; (try simp at hz1); obtain ⟨hc1, hf1⟩ := bcell hb1; have hB1 := below_step (w := w) hb1 (by repeat (first | assumption | exact Below.refl _ _ | (with_reducible refine Below.drew ?_) | (with_reducible refine below_drewN' ?_ _) | (with_reducible refine below_al ?_) | ((with_reducible refine below_set ?_ ?_); rotate_left; focus (first | (simp; done) | (simp; omega)))))
  have le_w_w1 : w.heap.size ≤ w1.heap.size := by omega
  try have lt_w_w1 : w.heap.size < w1.heap.size := by omega
  go_wp2_with fail
  go_ret
  exact ⟨rfl, by repeat (first | assumption | exact Below.refl _ _ | (with_reducible refine Below.drew ?_) | (with_reducible refine below_drewN' ?_ _) | (with_reducible refine below_al ?_) | ((with_reducible refine below_set ?_ ?_); rotate_left; focus (first | (simp; done) | (simp; omega))))⟩
set_option maxRecDepth 100000 in
set_option maxHeartbeats 4000000 in
theorem isoNext_same (n : Int) (n1 : 1 ≤ n) (n2 : n < 3652059) (x8 x9 y8 y9 : Int) (x81 : 48 ≤ x8) (x82 : x8 ≤ 57) (x91 : 48 ≤ x9) (x92 : x9 ≤ 57) (y81 : 48 ≤ y8) (y82 : y8 ≤ 57) (y91 : 48 ≤ y9) (y92 : y9 ≤ 57) (hx8 : Idx n 8 x8) (hx9 : Idx n 9 x9) (hy8 : Idx (n + 1) 8 y8) (hy9 : Idx (n + 1) 9 y9) (H : List UInt8) (hH : Hd n H) (hH' : Hd (n + 1) H) (hq : (10 * (y8 - 48) + y9 - 48 == 10 * (x8 - 48) + x9 - 48 + 1) = true) (w : World) (hL : Laid w) : Calls Tryd.prog 13 #[.int .i64 n] w fun e w' => e = .returned (.bool true) ∧ Below w.heap.size w w' := by
  unfold Idx at hx8 hx9 hy8 hy9; unfold Hd at hH hH'
  have z1 : ((((txs n).size : Nat) : Int) != 10) = false := by rw [(Iso.txs_read n1 (by omega)).2.2]; rfl
  have z2 : ((((txs (n + 1)).size : Nat) : Int) != 10) = false := by rw [(Iso.txs_read (n := n + 1) (by omega) (by omega)).2.2]; rfl
  obtain ⟨_, _, _, e4⟩ := of_in n1 (by omega)
  obtain ⟨_, _, _, f4⟩ := of_in (n := n + 1) (by omega) (by omega)
  have s1 : IntKind.i64.wrap (x8 - 48) = x8 - 48 := IntWalk.i64_in _ (by omega)
  have s2 : IntKind.i64.wrap (y8 - 48) = y8 - 48 := IntWalk.i64_in _ (by omega)
  have hB : Below w.heap.size w w := Below.refl _ _
  go_enter Tryd.func13, Tryd.ntmps13
  go_wp2_with fail
  refine (shown06_c _ (hL.below (by repeat (first | assumption | exact Below.refl _ _ | (with_reducible refine Below.drew ?_) | (with_reducible refine below_drewN' ?_ _) | (with_reducible refine below_al ?_) | ((with_reducible refine below_set ?_ ?_); rotate_left; focus (first | (simp; done) | (simp; omega))))))).mono ?_; rintro e w1 ⟨rfl, hb1⟩
  have hz1 := hb1.size; (try simp at hz1); obtain ⟨hc1, hf1⟩ := bcell hb1; have hB1 := below_step (w := w) hb1 (by repeat (first | assumption | exact Below.refl _ _ | (with_reducible refine Below.drew ?_) | (with_reducible refine below_drewN' ?_ _) | (with_reducible refine below_al ?_) | ((with_reducible refine below_set ?_ ?_); rotate_left; focus (first | (simp; done) | (simp; omega)))))
  have le_w_w1 : w.heap.size ≤ w1.heap.size := by omega
  try have lt_w_w1 : w.heap.size < w1.heap.size := by omega
  go_wp2_with fail
  refine (show_c _ _ (hL.below (by repeat (first | assumption | exact Below.refl _ _ | (with_reducible refine Below.drew ?_) | (with_reducible refine below_drewN' ?_ _) | (with_reducible refine below_al ?_) | ((with_reducible refine below_set ?_ ?_); rotate_left; focus (first | (simp; done) | (simp; omega))))))).mono ?_; rintro e w2 ⟨rfl, hb2⟩
  have hz2 := hb2.size; (try simp at hz2); obtain ⟨hc2, hf2⟩ := bcell hb2; have hB2 := below_step (w := w) hb2 (by repeat (first | assumption | exact Below.refl _ _ | (with_reducible refine Below.drew ?_) | (with_reducible refine below_drewN' ?_ _) | (with_reducible refine below_al ?_) | ((with_reducible refine below_set ?_ ?_); rotate_left; focus (first | (simp; done) | (simp; omega)))))
  have le_w_w2 : w.heap.size ≤ w2.heap.size := by omega
  try have lt_w_w2 : w.heap.size < w2.heap.size := by omega
  have le_w1_w2 : w1.heap.size ≤ w2.heap.size := by omega
  try have lt_w1_w2 : w1.heap.size < w2.heap.size := by omega
  go_wp2_with fail
  refine (show_c _ _ (hL.below (by repeat (first | assumption | exact Below.refl _ _ | (with_reducible refine Below.drew ?_) | (with_reducible refine below_drewN' ?_ _) | (with_reducible refine below_al ?_) | ((with_reducible refine below_set ?_ ?_); rotate_left; focus (first | (simp; done) | (simp; omega))))))).mono ?_; rintro e w3 ⟨rfl, hb3⟩
  have hz3 := hb3.size; (try simp at hz3); obtain ⟨hc3, hf3⟩ := bcell hb3; have hB3 := below_step (w := w) hb3 (by repeat (first | assumption | exact Below.refl _ _ | (with_reducible refine Below.drew ?_) | (with_reducible refine below_drewN' ?_ _) | (with_reducible refine below_al ?_) | ((with_reducible refine below_set ?_ ?_); rotate_left; focus (first | (simp; done) | (simp; omega)))))
  have le_w_w3 : w.heap.size ≤ w3.heap.size := by omega
  try have lt_w_w3 : w.heap.size < w3.heap.size := by omega
  have le_w1_w3 : w1.heap.size ≤ w3.heap.size := by omega
  try have lt_w1_w3 : w1.heap.size < w3.heap.size := by omega
  have le_w2_w3 : w2.heap.size ≤ w3.heap.size := by omega
  try have lt_w2_w3 : w2.heap.size < w3.heap.size := by omega
  go_wp2_with fail
  go_quiet (fail)
  go_wp2_with fail
  go_quiet (fail)
  go_wp2_with fail
  go_quiet (fail)
  go_wp2_with fail
  go_ret
  exact ⟨rfl, by repeat (first | assumption | exact Below.refl _ _ | (with_reducible refine Below.drew ?_) | (with_reducible refine below_drewN' ?_ _) | (with_reducible refine below_al ?_) | ((with_reducible refine below_set ?_ ?_); rotate_left; focus (first | (simp; done) | (simp; omega))))⟩
set_option maxRecDepth 100000 in
set_option maxHeartbeats 4000000 in
theorem isoNext_next (n : Int) (n1 : 1 ≤ n) (n2 : n < 3652059) (x8 x9 y8 y9 : Int) (x81 : 48 ≤ x8) (x82 : x8 ≤ 57) (x91 : 48 ≤ x9) (x92 : x9 ≤ 57) (y81 : 48 ≤ y8) (y82 : y8 ≤ 57) (y91 : 48 ≤ y9) (y92 : y9 ≤ 57) (hx8 : Idx n 8 x8) (hx9 : Idx n 9 x9) (hy8 : Idx (n + 1) 8 y8) (hy9 : Idx (n + 1) 9 y9) (H H' : List UInt8) (hH : Hd n H) (hH' : Hd (n + 1) H') (hne : (H == H') = false) (hlt : Op.bytesLess H H' = true) (hq : (10 * (y8 - 48) + y9 - 48 == 1) = true) (hp : 28 ≤ 10 * (x8 - 48) + x9 - 48) (w : World) (hL : Laid w) : Calls Tryd.prog 13 #[.int .i64 n] w fun e w' => e = .returned (.bool true) ∧ Below w.heap.size w w' := by
  unfold Idx at hx8 hx9 hy8 hy9; unfold Hd at hH hH'
  have z1 : ((((txs n).size : Nat) : Int) != 10) = false := by rw [(Iso.txs_read n1 (by omega)).2.2]; rfl
  have z2 : ((((txs (n + 1)).size : Nat) : Int) != 10) = false := by rw [(Iso.txs_read (n := n + 1) (by omega) (by omega)).2.2]; rfl
  obtain ⟨_, _, _, e4⟩ := of_in n1 (by omega)
  obtain ⟨_, _, _, f4⟩ := of_in (n := n + 1) (by omega) (by omega)
  have s1 : IntKind.i64.wrap (x8 - 48) = x8 - 48 := IntWalk.i64_in _ (by omega)
  have s2 : IntKind.i64.wrap (y8 - 48) = y8 - 48 := IntWalk.i64_in _ (by omega)
  have hB : Below w.heap.size w w := Below.refl _ _
  go_enter Tryd.func13, Tryd.ntmps13
  go_wp2_with fail
  refine (shown06_c _ (hL.below (by repeat (first | assumption | exact Below.refl _ _ | (with_reducible refine Below.drew ?_) | (with_reducible refine below_drewN' ?_ _) | (with_reducible refine below_al ?_) | ((with_reducible refine below_set ?_ ?_); rotate_left; focus (first | (simp; done) | (simp; omega))))))).mono ?_; rintro e w1 ⟨rfl, hb1⟩
  have hz1 := hb1.size; (try simp at hz1); obtain ⟨hc1, hf1⟩ := bcell hb1; have hB1 := below_step (w := w) hb1 (by repeat (first | assumption | exact Below.refl _ _ | (with_reducible refine Below.drew ?_) | (with_reducible refine below_drewN' ?_ _) | (with_reducible refine below_al ?_) | ((with_reducible refine below_set ?_ ?_); rotate_left; focus (first | (simp; done) | (simp; omega)))))
  have le_w_w1 : w.heap.size ≤ w1.heap.size := by omega
  try have lt_w_w1 : w.heap.size < w1.heap.size := by omega
  go_wp2_with fail
  refine (show_c _ _ (hL.below (by repeat (first | assumption | exact Below.refl _ _ | (with_reducible refine Below.drew ?_) | (with_reducible refine below_drewN' ?_ _) | (with_reducible refine below_al ?_) | ((with_reducible refine below_set ?_ ?_); rotate_left; focus (first | (simp; done) | (simp; omega))))))).mono ?_; rintro e w2 ⟨rfl, hb2⟩
  have hz2 := hb2.size; (try simp at hz2); obtain ⟨hc2, hf2⟩ := bcell hb2; have hB2 := below_step (w := w) hb2 (by repeat (first | assumption | exact Below.refl _ _ | (with_reducible refine Below.drew ?_) | (with_reducible refine below_drewN' ?_ _) | (with_reducible refine below_al ?_) | ((with_reducible refine below_set ?_ ?_); rotate_left; focus (first | (simp; done) | (simp; omega)))))
  have le_w_w2 : w.heap.size ≤ w2.heap.size := by omega
  try have lt_w_w2 : w.heap.size < w2.heap.size := by omega
  have le_w1_w2 : w1.heap.size ≤ w2.heap.size := by omega
  try have lt_w1_w2 : w1.heap.size < w2.heap.size := by omega
  go_wp2_with fail
  refine (show_c _ _ (hL.below (by repeat (first | assumption | exact Below.refl _ _ | (with_reducible refine Below.drew ?_) | (with_reducible refine below_drewN' ?_ _) | (with_reducible refine below_al ?_) | ((with_reducible refine below_set ?_ ?_); rotate_left; focus (first | (simp; done) | (simp; omega))))))).mono ?_; rintro e w3 ⟨rfl, hb3⟩
  have hz3 := hb3.size; (try simp at hz3); obtain ⟨hc3, hf3⟩ := bcell hb3; have hB3 := below_step (w := w) hb3 (by repeat (first | assumption | exact Below.refl _ _ | (with_reducible refine Below.drew ?_) | (with_reducible refine below_drewN' ?_ _) | (with_reducible refine below_al ?_) | ((with_reducible refine below_set ?_ ?_); rotate_left; focus (first | (simp; done) | (simp; omega)))))
  have le_w_w3 : w.heap.size ≤ w3.heap.size := by omega
  try have lt_w_w3 : w.heap.size < w3.heap.size := by omega
  have le_w1_w3 : w1.heap.size ≤ w3.heap.size := by omega
  try have lt_w1_w3 : w1.heap.size < w3.heap.size := by omega
  have le_w2_w3 : w2.heap.size ≤ w3.heap.size := by omega
  try have lt_w2_w3 : w2.heap.size < w3.heap.size := by omega
  go_wp2_with fail
  go_quiet (fail)
  go_wp2_with fail
  go_quiet (fail)
  go_wp2_with fail
  go_quiet (fail)
  go_wp2_with fail
  go_quiet (fail)
  go_wp2_with fail
  go_ret
  exact ⟨rfl, by repeat (first | assumption | exact Below.refl _ _ | (with_reducible refine Below.drew ?_) | (with_reducible refine below_drewN' ?_ _) | (with_reducible refine below_al ?_) | ((with_reducible refine below_set ?_ ?_); rotate_left; focus (first | (simp; done) | (simp; omega))))⟩
theorem isoNext_walk (n : Int) (w : World) (hL : Laid w) : Calls Tryd.prog 13 #[.int .i64 n] w fun e w' => e = .returned (.bool true) ∧ Below w.heap.size w w' := by
  by_cases h1 : n < 1
  · exact isoNext_lo n h1 w hL
  by_cases h2 : 3652059 ≤ n
  · exact isoNext_hi n h2 w hL
  have D := Cal.day_of n (by omega) (by omega)
  have E := Cal.day_of (n + 1) (by omega) (by omega)
  have l1 := Iso.len_len (Cal.yOf n) (Cal.mOf n)
  have l2 := Iso.len_len (Cal.yOf (n + 1)) (Cal.mOf (n + 1))
  have l3 := Cal.len_bd (Cal.yOf n) (Cal.mOf n) D.m1 D.m2
  have d1 := D.d1; have d2 := D.d2; have e1 := E.d1; have e2 := E.d2
  have A := Iso.bd_of n (by omega) (by omega)
  have B := Iso.bd_of (n + 1) (by omega) (by omega)
  have i1 := idx8 (n := n) (by omega) (by omega)
  have i2 := idx9 (n := n) (by omega) (by omega)
  have i3 := idx8 (n := n + 1) (by omega) (by omega)
  have i4 := idx9 (n := n + 1) (by omega) (by omega)
  have g1 := hd8 (n := n) (by omega) (by omega)
  have g2 := hd8 (n := n + 1) (by omega) (by omega)
  by_cases hk : Cal.dOf n = Cal.len (Cal.yOf n) (Cal.mOf n)
  · have N : (Cal.yOf n < Cal.yOf (n + 1) ∨ Cal.yOf n = Cal.yOf (n + 1) ∧ Cal.mOf n < Cal.mOf (n + 1)) ∧ Cal.dOf (n + 1) = 1 := by
      by_cases hm : Cal.mOf n = 12
      · obtain ⟨a, b, c⟩ := (Cal.next_year D hk hm (by omega)).of_eq
        rw [a, b, c]; omega
      · obtain ⟨a, b, c⟩ := (Cal.next_month D hk hm).of_eq
        rw [a, b, c]; omega
    refine isoNext_next n (by omega) (by omega) _ _ _ _ (by omega) (by omega) (by omega) (by omega) (by omega) (by omega) (by omega) (by omega) i1 i2 i3 i4 _ _ g1 g2 ?_ ?_ (beq_iff_eq.2 (by omega)) (by omega) w hL
    · rw [beq_eq_false_iff_ne]
      intro h
      have := (Iso.head_inj _ _ _ _ A.y1 A.y2 A.m1 A.m2 B.y1 B.y2 B.m1 B.m2).1 h
      omega
    · rw [Iso.less_head _ _ _ _ A.y1 A.y2 A.m1 A.m2 B.y1 B.y2 B.m1 B.m2]
      exact decide_eq_true N.1
  · obtain ⟨a, b, c⟩ := (Cal.next_mid D hk).of_eq
    rw [a, b] at g2
    exact isoNext_same n (by omega) (by omega) _ _ _ _ (by omega) (by omega) (by omega) (by omega) (by omega) (by omega) (by omega) (by omega) i1 i2 i3 i4 _ g1 g2 (beq_iff_eq.2 (by omega)) w hL
end Go.Proofs.YtmaocplnikijnaaDoor
