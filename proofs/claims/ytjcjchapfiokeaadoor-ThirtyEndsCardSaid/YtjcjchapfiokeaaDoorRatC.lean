/- Fractions of the document: a fraction of two numbers of any size, of two numbers; the sum; two compared. Conditions: sizes far below the machine's, results within the bounds. -/
import Derived.Test.YtjcjchapfiokeaaDoorBigH
import Derived.Test.YtjcjchapfiokeaaDoorRatB
namespace Go.Proofs.YtjcjchapfiokeaaDoor
open Go.RowKit
set_option linter.unusedVariables false
set_option linter.unusedSimpArgs false
theorem gcd_len {n m : Nat} (hm : 0 < m) : (dg (Nat.gcd n m)).length ≤ (dg m).length := dg_mono (Nat.le_of_dvd hm (Nat.gcd_dvd_right n m))
set_option maxRecDepth 100000 in
set_option maxHeartbeats 4000000 in
theorem made_c (A B : Option Addr) (ca cb n m la lb : Nat) (hla : Hid ((dg n).length = la)) (hlb : Hid ((dg m).length = lb)) (bla : la ≤ 1000) (blb : lb ≤ 1000) (hm : 0 < m) (hn1 : n / Nat.gcd n m ≤ 4611686018427387904) (hm1 : m / Nat.gcd n m ≤ 4611686018427387904) (w : World) (ha : DIn w A (dg n)) (hb : DIn w B (dg m)) : Calls Tryd.prog 69 #[.agg #[.slice A la ca], .agg #[.slice B lb cb]] w fun e w' => e = .returned (.tuple #[.agg #[.int .i64 (Thi.rN n m), .int .i64 (Thi.rD n m)], .int .i64 0]) ∧ Below w.heap.size w w' := by
  have c1 := cmp_top hn1
  have c2 := cmp_top hm1
  have HG := fun (w : World) => bgcd_c A B ca cb n m la lb hla hlb bla blb w
  have gp : 0 < Nat.gcd n m := Nat.gcd_pos_of_pos_right _ hm
  have gl := gcd_len (n := n) hm
  rw [hlb.out] at gl
  show Calls Tryd.prog 69 #[.agg #[.slice A la ca], .agg #[.slice B lb cb]] w fun e w' => e = .returned (.tuple #[.agg #[.int .i64 ((n / Nat.gcd n m : Nat) : Int), .int .i64 ((m / Nat.gcd n m : Nat) : Int)], .int .i64 0]) ∧ Below w.heap.size w w'
  have HQ := fun (A B : Option Addr) (ca cb la lb : Nat) hla hlb => bquot_c A B ca cb n (Nat.gcd n m) la lb gp hla hlb
  have HR := fun (A B : Option Addr) (ca cb la lb : Nat) hla hlb => bquot_c A B ca cb m (Nat.gcd n m) la lb gp hla hlb
  have ql : (dg (n / Nat.gcd n m)).length ≤ la := by rw [← hla.out]; exact dg_mono (Nat.div_le_self _ _)
  have rl : (dg (m / Nat.gcd n m)).length ≤ lb := by rw [← hlb.out]; exact dg_mono (Nat.div_le_self _ _)
  generalize Nat.gcd n m = g at *
  generalize n / g = q at *
  generalize m / g = r at *
  obtain ⟨lg, hlg⟩ : ∃ lg, (dg g).length = lg := ⟨_, rfl⟩
  obtain ⟨lq, hlq⟩ : ∃ lq, (dg q).length = lq := ⟨_, rfl⟩
  obtain ⟨lr, hlr⟩ : ∃ lr, (dg r).length = lr := ⟨_, rfl⟩
  obtain ⟨lm, hlm⟩ : ∃ lm, (dg 4611686018427387904).length = lm := ⟨_, rfl⟩
  have bm : lm ≤ 5 := by rw [← hlm]; exact dg_le (by omega)
  rw [hlg] at gl; rw [hlq] at ql; rw [hlr] at rl
  have HLG := Lib.hid hlg; have HLQ := Lib.hid hlq; have HLR := Lib.hid hlr; have HLM := Lib.hid hlm; clear hlg hlq hlr hlm
  have hB : Below w.heap.size w w := Below.refl _ _
  go_enter Tryd.func69, Tryd.ntmps69
  go_wp2_with fail
  refine (HG _ (ha.below (by repeat (first | (with_reducible assumption) | (with_reducible exact Below.refl _ _) | (with_reducible refine Below.drew ?_) | (with_reducible refine below_drewN' ?_ _) | (with_reducible refine below_al ?_) | ((with_reducible refine below_set ?_ ?_); rotate_left; focus (first | (simp; done) | (simp; omega)))))) (hb.below (by repeat (first | (with_reducible assumption) | (with_reducible exact Below.refl _ _) | (with_reducible refine Below.drew ?_) | (with_reducible refine below_drewN' ?_ _) | (with_reducible refine below_al ?_) | ((with_reducible refine below_set ?_ ?_); rotate_left; focus (first | (simp; done) | (simp; omega))))))).mono ?_; rintro e w1 ⟨GA, gc, rfl, hG, hb1⟩
  have hz1 := hb1.size; (try simp at hz1); obtain ⟨hc1, hf1⟩ := bcell hb1
  have hB_w_1 := below_step (w := w) hb1 (by repeat (first | (with_reducible assumption) | (with_reducible exact Below.refl _ _) | (with_reducible refine Below.drew ?_) | (with_reducible refine below_drewN' ?_ _) | (with_reducible refine below_al ?_) | ((with_reducible refine below_set ?_ ?_); rotate_left; focus (first | (simp; done) | (simp; omega)))))
  have le_w_w1 : w.heap.size ≤ w1.heap.size := by omega
  try have lt_w_w1 : w.heap.size < w1.heap.size := by omega
  try have lp01_w_w1 : w.heap.size < w1.heap.size + 1 := by omega
  try have lp02_w_w1 : w.heap.size < w1.heap.size + 1 + 1 := by omega
  try have lp03_w_w1 : w.heap.size < w1.heap.size + 1 + 1 + 1 := by omega
  try have lp11_w_w1 : w.heap.size + 1 < w1.heap.size + 1 := by omega
  try have lp12_w_w1 : w.heap.size + 1 < w1.heap.size + 1 + 1 := by omega
  try have lp13_w_w1 : w.heap.size + 1 < w1.heap.size + 1 + 1 + 1 := by omega
  try have lp22_w_w1 : w.heap.size + 1 + 1 < w1.heap.size + 1 + 1 := by omega
  try have lp23_w_w1 : w.heap.size + 1 + 1 < w1.heap.size + 1 + 1 + 1 := by omega
  try have le1_w_w1 : w.heap.size + 1 ≤ w1.heap.size := by omega
  try have lt1_w_w1 : w.heap.size + 1 < w1.heap.size := by omega
  try have le2_w_w1 : w.heap.size + 1 + 1 ≤ w1.heap.size := by omega
  try have lt2_w_w1 : w.heap.size + 1 + 1 < w1.heap.size := by omega
  have s1_w1 : w1.heap.size < w1.heap.size + 1 + 1 := by omega
  have s2_w1 : w1.heap.size < w1.heap.size + 1 + 1 + 1 := by omega
  rw [HLG.out]
  go_wp2_with fail
  refine (HQ _ _ _ _ _ _ hla HLG bla (by omega) _ (ha.below (by repeat (first | (with_reducible assumption) | (with_reducible exact Below.refl _ _) | (with_reducible refine Below.drew ?_) | (with_reducible refine below_drewN' ?_ _) | (with_reducible refine below_al ?_) | ((with_reducible refine below_set ?_ ?_); rotate_left; focus (first | (simp; done) | (simp; omega)))))) (hG.below (by repeat (first | (with_reducible assumption) | (with_reducible exact Below.refl _ _) | (with_reducible refine Below.drew ?_) | (with_reducible refine below_drewN' ?_ _) | (with_reducible refine below_al ?_) | ((with_reducible refine below_set ?_ ?_); rotate_left; focus (first | (simp; done) | (simp; omega))))))).mono ?_; rintro e w2 ⟨QA, qc, QX, qxc, rfl, hQ, hQX, hb2⟩
  have hz2 := hb2.size; (try simp at hz2); obtain ⟨hc2, hf2⟩ := bcell hb2
  have hB_w_2 := below_step (w := w) hb2 (by repeat (first | (with_reducible assumption) | (with_reducible exact Below.refl _ _) | (with_reducible refine Below.drew ?_) | (with_reducible refine below_drewN' ?_ _) | (with_reducible refine below_al ?_) | ((with_reducible refine below_set ?_ ?_); rotate_left; focus (first | (simp; done) | (simp; omega)))))
  have hB_w1_2 := below_step (w := w1) hb2 (by repeat (first | (with_reducible assumption) | (with_reducible exact Below.refl _ _) | (with_reducible refine Below.drew ?_) | (with_reducible refine below_drewN' ?_ _) | (with_reducible refine below_al ?_) | ((with_reducible refine below_set ?_ ?_); rotate_left; focus (first | (simp; done) | (simp; omega)))))
  have le_w_w2 : w.heap.size ≤ w2.heap.size := by omega
  try have lt_w_w2 : w.heap.size < w2.heap.size := by omega
  try have lp01_w_w2 : w.heap.size < w2.heap.size + 1 := by omega
  try have lp02_w_w2 : w.heap.size < w2.heap.size + 1 + 1 := by omega
  try have lp03_w_w2 : w.heap.size < w2.heap.size + 1 + 1 + 1 := by omega
  try have lp11_w_w2 : w.heap.size + 1 < w2.heap.size + 1 := by omega
  try have lp12_w_w2 : w.heap.size + 1 < w2.heap.size + 1 + 1 := by omega
  try have lp13_w_w2 : w.heap.size + 1 < w2.heap.size + 1 + 1 + 1 := by omega
  try have lp22_w_w2 : w.heap.size + 1 + 1 < w2.heap.size + 1 + 1 := by omega
  try have lp23_w_w2 : w.heap.size + 1 + 1 < w2.heap.size + 1 + 1 + 1 := by omega
  try have le1_w_w2 : w.heap.size + 1 ≤ w2.heap.size := by omega
  try have lt1_w_w2 : w.heap.size + 1 < w2.heap.size := by omega
  try have le2_w_w2 : w.heap.size + 1 + 1 ≤ w2.heap.size := by omega
  try have lt2_w_w2 : w.heap.size + 1 + 1 < w2.heap.size := by omega
  have le_w1_w2 : w1.heap.size ≤ w2.heap.size := by omega
  try have lt_w1_w2 : w1.heap.size < w2.heap.size := by omega
  try have lp01_w1_w2 : w1.heap.size < w2.heap.size + 1 := by omega
  try have lp02_w1_w2 : w1.heap.size < w2.heap.size + 1 + 1 := by omega
  try have lp03_w1_w2 : w1.heap.size < w2.heap.size + 1 + 1 + 1 := by omega
  try have lp11_w1_w2 : w1.heap.size + 1 < w2.heap.size + 1 := by omega
  try have lp12_w1_w2 : w1.heap.size + 1 < w2.heap.size + 1 + 1 := by omega
  try have lp13_w1_w2 : w1.heap.size + 1 < w2.heap.size + 1 + 1 + 1 := by omega
  try have lp22_w1_w2 : w1.heap.size + 1 + 1 < w2.heap.size + 1 + 1 := by omega
  try have lp23_w1_w2 : w1.heap.size + 1 + 1 < w2.heap.size + 1 + 1 + 1 := by omega
  try have le1_w1_w2 : w1.heap.size + 1 ≤ w2.heap.size := by omega
  try have lt1_w1_w2 : w1.heap.size + 1 < w2.heap.size := by omega
  try have le2_w1_w2 : w1.heap.size + 1 + 1 ≤ w2.heap.size := by omega
  try have lt2_w1_w2 : w1.heap.size + 1 + 1 < w2.heap.size := by omega
  have s1_w2 : w2.heap.size < w2.heap.size + 1 + 1 := by omega
  have s2_w2 : w2.heap.size < w2.heap.size + 1 + 1 + 1 := by omega
  rw [HLQ.out]
  have hQ := hQ.to (Nat.le_refl _)
  go_wp2_with fail
  refine (HR _ _ _ _ _ _ hlb HLG blb (by omega) _ (hb.below (by repeat (first | (with_reducible assumption) | (with_reducible exact Below.refl _ _) | (with_reducible refine Below.drew ?_) | (with_reducible refine below_drewN' ?_ _) | (with_reducible refine below_al ?_) | ((with_reducible refine below_set ?_ ?_); rotate_left; focus (first | (simp; done) | (simp; omega)))))) (hG.below (by repeat (first | (with_reducible assumption) | (with_reducible exact Below.refl _ _) | (with_reducible refine Below.drew ?_) | (with_reducible refine below_drewN' ?_ _) | (with_reducible refine below_al ?_) | ((with_reducible refine below_set ?_ ?_); rotate_left; focus (first | (simp; done) | (simp; omega))))))).mono ?_; rintro e w3 ⟨RA, rc, RX, rxc, rfl, hR, hRX, hb3⟩
  have hz3 := hb3.size; (try simp at hz3); obtain ⟨hc3, hf3⟩ := bcell hb3
  have hB_w_3 := below_step (w := w) hb3 (by repeat (first | (with_reducible assumption) | (with_reducible exact Below.refl _ _) | (with_reducible refine Below.drew ?_) | (with_reducible refine below_drewN' ?_ _) | (with_reducible refine below_al ?_) | ((with_reducible refine below_set ?_ ?_); rotate_left; focus (first | (simp; done) | (simp; omega)))))
  have hB_w1_3 := below_step (w := w1) hb3 (by repeat (first | (with_reducible assumption) | (with_reducible exact Below.refl _ _) | (with_reducible refine Below.drew ?_) | (with_reducible refine below_drewN' ?_ _) | (with_reducible refine below_al ?_) | ((with_reducible refine below_set ?_ ?_); rotate_left; focus (first | (simp; done) | (simp; omega)))))
  have hB_w2_3 := below_step (w := w2) hb3 (by repeat (first | (with_reducible assumption) | (with_reducible exact Below.refl _ _) | (with_reducible refine Below.drew ?_) | (with_reducible refine below_drewN' ?_ _) | (with_reducible refine below_al ?_) | ((with_reducible refine below_set ?_ ?_); rotate_left; focus (first | (simp; done) | (simp; omega)))))
  have le_w_w3 : w.heap.size ≤ w3.heap.size := by omega
  try have lt_w_w3 : w.heap.size < w3.heap.size := by omega
  try have lp01_w_w3 : w.heap.size < w3.heap.size + 1 := by omega
  try have lp02_w_w3 : w.heap.size < w3.heap.size + 1 + 1 := by omega
  try have lp03_w_w3 : w.heap.size < w3.heap.size + 1 + 1 + 1 := by omega
  try have lp11_w_w3 : w.heap.size + 1 < w3.heap.size + 1 := by omega
  try have lp12_w_w3 : w.heap.size + 1 < w3.heap.size + 1 + 1 := by omega
  try have lp13_w_w3 : w.heap.size + 1 < w3.heap.size + 1 + 1 + 1 := by omega
  try have lp22_w_w3 : w.heap.size + 1 + 1 < w3.heap.size + 1 + 1 := by omega
  try have lp23_w_w3 : w.heap.size + 1 + 1 < w3.heap.size + 1 + 1 + 1 := by omega
  try have le1_w_w3 : w.heap.size + 1 ≤ w3.heap.size := by omega
  try have lt1_w_w3 : w.heap.size + 1 < w3.heap.size := by omega
  try have le2_w_w3 : w.heap.size + 1 + 1 ≤ w3.heap.size := by omega
  try have lt2_w_w3 : w.heap.size + 1 + 1 < w3.heap.size := by omega
  have le_w1_w3 : w1.heap.size ≤ w3.heap.size := by omega
  try have lt_w1_w3 : w1.heap.size < w3.heap.size := by omega
  try have lp01_w1_w3 : w1.heap.size < w3.heap.size + 1 := by omega
  try have lp02_w1_w3 : w1.heap.size < w3.heap.size + 1 + 1 := by omega
  try have lp03_w1_w3 : w1.heap.size < w3.heap.size + 1 + 1 + 1 := by omega
  try have lp11_w1_w3 : w1.heap.size + 1 < w3.heap.size + 1 := by omega
  try have lp12_w1_w3 : w1.heap.size + 1 < w3.heap.size + 1 + 1 := by omega
  try have lp13_w1_w3 : w1.heap.size + 1 < w3.heap.size + 1 + 1 + 1 := by omega
  try have lp22_w1_w3 : w1.heap.size + 1 + 1 < w3.heap.size + 1 + 1 := by omega
  try have lp23_w1_w3 : w1.heap.size + 1 + 1 < w3.heap.size + 1 + 1 + 1 := by omega
  try have le1_w1_w3 : w1.heap.size + 1 ≤ w3.heap.size := by omega
  try have lt1_w1_w3 : w1.heap.size + 1 < w3.heap.size := by omega
  try have le2_w1_w3 : w1.heap.size + 1 + 1 ≤ w3.heap.size := by omega
  try have lt2_w1_w3 : w1.heap.size + 1 + 1 < w3.heap.size := by omega
  have le_w2_w3 : w2.heap.size ≤ w3.heap.size := by omega
  try have lt_w2_w3 : w2.heap.size < w3.heap.size := by omega
  try have lp01_w2_w3 : w2.heap.size < w3.heap.size + 1 := by omega
  try have lp02_w2_w3 : w2.heap.size < w3.heap.size + 1 + 1 := by omega
  try have lp03_w2_w3 : w2.heap.size < w3.heap.size + 1 + 1 + 1 := by omega
  try have lp11_w2_w3 : w2.heap.size + 1 < w3.heap.size + 1 := by omega
  try have lp12_w2_w3 : w2.heap.size + 1 < w3.heap.size + 1 + 1 := by omega
  try have lp13_w2_w3 : w2.heap.size + 1 < w3.heap.size + 1 + 1 + 1 := by omega
  try have lp22_w2_w3 : w2.heap.size + 1 + 1 < w3.heap.size + 1 + 1 := by omega
  try have lp23_w2_w3 : w2.heap.size + 1 + 1 < w3.heap.size + 1 + 1 + 1 := by omega
  try have le1_w2_w3 : w2.heap.size + 1 ≤ w3.heap.size := by omega
  try have lt1_w2_w3 : w2.heap.size + 1 < w3.heap.size := by omega
  try have le2_w2_w3 : w2.heap.size + 1 + 1 ≤ w3.heap.size := by omega
  try have lt2_w2_w3 : w2.heap.size + 1 + 1 < w3.heap.size := by omega
  have s1_w3 : w3.heap.size < w3.heap.size + 1 + 1 := by omega
  have s2_w3 : w3.heap.size < w3.heap.size + 1 + 1 + 1 := by omega
  rw [HLR.out]
  have hR := hR.to (Nat.le_refl _)
  go_wp2_with fail
  refine (fromU_c 4611686018427387904 (by omega) _).mono ?_; rintro e w4 ⟨MA, mc, rfl, hM, hb4⟩
  have hz4 := hb4.size; (try simp at hz4); obtain ⟨hc4, hf4⟩ := bcell hb4
  have hB_w_4 := below_step (w := w) hb4 (by repeat (first | (with_reducible assumption) | (with_reducible exact Below.refl _ _) | (with_reducible refine Below.drew ?_) | (with_reducible refine below_drewN' ?_ _) | (with_reducible refine below_al ?_) | ((with_reducible refine below_set ?_ ?_); rotate_left; focus (first | (simp; done) | (simp; omega)))))
  have hB_w1_4 := below_step (w := w1) hb4 (by repeat (first | (with_reducible assumption) | (with_reducible exact Below.refl _ _) | (with_reducible refine Below.drew ?_) | (with_reducible refine below_drewN' ?_ _) | (with_reducible refine below_al ?_) | ((with_reducible refine below_set ?_ ?_); rotate_left; focus (first | (simp; done) | (simp; omega)))))
  have hB_w2_4 := below_step (w := w2) hb4 (by repeat (first | (with_reducible assumption) | (with_reducible exact Below.refl _ _) | (with_reducible refine Below.drew ?_) | (with_reducible refine below_drewN' ?_ _) | (with_reducible refine below_al ?_) | ((with_reducible refine below_set ?_ ?_); rotate_left; focus (first | (simp; done) | (simp; omega)))))
  have hB_w3_4 := below_step (w := w3) hb4 (by repeat (first | (with_reducible assumption) | (with_reducible exact Below.refl _ _) | (with_reducible refine Below.drew ?_) | (with_reducible refine below_drewN' ?_ _) | (with_reducible refine below_al ?_) | ((with_reducible refine below_set ?_ ?_); rotate_left; focus (first | (simp; done) | (simp; omega)))))
  have le_w_w4 : w.heap.size ≤ w4.heap.size := by omega
  try have lt_w_w4 : w.heap.size < w4.heap.size := by omega
  try have lp01_w_w4 : w.heap.size < w4.heap.size + 1 := by omega
  try have lp02_w_w4 : w.heap.size < w4.heap.size + 1 + 1 := by omega
  try have lp03_w_w4 : w.heap.size < w4.heap.size + 1 + 1 + 1 := by omega
  try have lp11_w_w4 : w.heap.size + 1 < w4.heap.size + 1 := by omega
  try have lp12_w_w4 : w.heap.size + 1 < w4.heap.size + 1 + 1 := by omega
  try have lp13_w_w4 : w.heap.size + 1 < w4.heap.size + 1 + 1 + 1 := by omega
  try have lp22_w_w4 : w.heap.size + 1 + 1 < w4.heap.size + 1 + 1 := by omega
  try have lp23_w_w4 : w.heap.size + 1 + 1 < w4.heap.size + 1 + 1 + 1 := by omega
  try have le1_w_w4 : w.heap.size + 1 ≤ w4.heap.size := by omega
  try have lt1_w_w4 : w.heap.size + 1 < w4.heap.size := by omega
  try have le2_w_w4 : w.heap.size + 1 + 1 ≤ w4.heap.size := by omega
  try have lt2_w_w4 : w.heap.size + 1 + 1 < w4.heap.size := by omega
  have le_w1_w4 : w1.heap.size ≤ w4.heap.size := by omega
  try have lt_w1_w4 : w1.heap.size < w4.heap.size := by omega
  try have lp01_w1_w4 : w1.heap.size < w4.heap.size + 1 := by omega
  try have lp02_w1_w4 : w1.heap.size < w4.heap.size + 1 + 1 := by omega
  try have lp03_w1_w4 : w1.heap.size < w4.heap.size + 1 + 1 + 1 := by omega
  try have lp11_w1_w4 : w1.heap.size + 1 < w4.heap.size + 1 := by omega
  try have lp12_w1_w4 : w1.heap.size + 1 < w4.heap.size + 1 + 1 := by omega
  try have lp13_w1_w4 : w1.heap.size + 1 < w4.heap.size + 1 + 1 + 1 := by omega
  try have lp22_w1_w4 : w1.heap.size + 1 + 1 < w4.heap.size + 1 + 1 := by omega
  try have lp23_w1_w4 : w1.heap.size + 1 + 1 < w4.heap.size + 1 + 1 + 1 := by omega
  try have le1_w1_w4 : w1.heap.size + 1 ≤ w4.heap.size := by omega
  try have lt1_w1_w4 : w1.heap.size + 1 < w4.heap.size := by omega
  try have le2_w1_w4 : w1.heap.size + 1 + 1 ≤ w4.heap.size := by omega
  try have lt2_w1_w4 : w1.heap.size + 1 + 1 < w4.heap.size := by omega
  have le_w2_w4 : w2.heap.size ≤ w4.heap.size := by omega
  try have lt_w2_w4 : w2.heap.size < w4.heap.size := by omega
  try have lp01_w2_w4 : w2.heap.size < w4.heap.size + 1 := by omega
  try have lp02_w2_w4 : w2.heap.size < w4.heap.size + 1 + 1 := by omega
  try have lp03_w2_w4 : w2.heap.size < w4.heap.size + 1 + 1 + 1 := by omega
  try have lp11_w2_w4 : w2.heap.size + 1 < w4.heap.size + 1 := by omega
  try have lp12_w2_w4 : w2.heap.size + 1 < w4.heap.size + 1 + 1 := by omega
  try have lp13_w2_w4 : w2.heap.size + 1 < w4.heap.size + 1 + 1 + 1 := by omega
  try have lp22_w2_w4 : w2.heap.size + 1 + 1 < w4.heap.size + 1 + 1 := by omega
  try have lp23_w2_w4 : w2.heap.size + 1 + 1 < w4.heap.size + 1 + 1 + 1 := by omega
  try have le1_w2_w4 : w2.heap.size + 1 ≤ w4.heap.size := by omega
  try have lt1_w2_w4 : w2.heap.size + 1 < w4.heap.size := by omega
  try have le2_w2_w4 : w2.heap.size + 1 + 1 ≤ w4.heap.size := by omega
  try have lt2_w2_w4 : w2.heap.size + 1 + 1 < w4.heap.size := by omega
  have le_w3_w4 : w3.heap.size ≤ w4.heap.size := by omega
  try have lt_w3_w4 : w3.heap.size < w4.heap.size := by omega
  try have lp01_w3_w4 : w3.heap.size < w4.heap.size + 1 := by omega
  try have lp02_w3_w4 : w3.heap.size < w4.heap.size + 1 + 1 := by omega
  try have lp03_w3_w4 : w3.heap.size < w4.heap.size + 1 + 1 + 1 := by omega
  try have lp11_w3_w4 : w3.heap.size + 1 < w4.heap.size + 1 := by omega
  try have lp12_w3_w4 : w3.heap.size + 1 < w4.heap.size + 1 + 1 := by omega
  try have lp13_w3_w4 : w3.heap.size + 1 < w4.heap.size + 1 + 1 + 1 := by omega
  try have lp22_w3_w4 : w3.heap.size + 1 + 1 < w4.heap.size + 1 + 1 := by omega
  try have lp23_w3_w4 : w3.heap.size + 1 + 1 < w4.heap.size + 1 + 1 + 1 := by omega
  try have le1_w3_w4 : w3.heap.size + 1 ≤ w4.heap.size := by omega
  try have lt1_w3_w4 : w3.heap.size + 1 < w4.heap.size := by omega
  try have le2_w3_w4 : w3.heap.size + 1 + 1 ≤ w4.heap.size := by omega
  try have lt2_w3_w4 : w3.heap.size + 1 + 1 < w4.heap.size := by omega
  have s1_w4 : w4.heap.size < w4.heap.size + 1 + 1 := by omega
  have s2_w4 : w4.heap.size < w4.heap.size + 1 + 1 + 1 := by omega
  rw [HLM.out]
  have hM := hM.to (Nat.le_refl _)
  go_wp2_with fail
  refine (bcmp_c _ _ _ _ q 4611686018427387904 _ _ HLQ HLM (by omega) (by omega) _ (hQ.below (by repeat (first | (with_reducible assumption) | (with_reducible exact Below.refl _ _) | (with_reducible refine Below.drew ?_) | (with_reducible refine below_drewN' ?_ _) | (with_reducible refine below_al ?_) | ((with_reducible refine below_set ?_ ?_); rotate_left; focus (first | (simp; done) | (simp; omega)))))) (hM.below (by repeat (first | (with_reducible assumption) | (with_reducible exact Below.refl _ _) | (with_reducible refine Below.drew ?_) | (with_reducible refine below_drewN' ?_ _) | (with_reducible refine below_al ?_) | ((with_reducible refine below_set ?_ ?_); rotate_left; focus (first | (simp; done) | (simp; omega))))))).mono ?_; rintro e w5 ⟨rfl, hb5⟩
  have hz5 := hb5.size; (try simp at hz5); obtain ⟨hc5, hf5⟩ := bcell hb5
  have hB_w_5 := below_step (w := w) hb5 (by repeat (first | (with_reducible assumption) | (with_reducible exact Below.refl _ _) | (with_reducible refine Below.drew ?_) | (with_reducible refine below_drewN' ?_ _) | (with_reducible refine below_al ?_) | ((with_reducible refine below_set ?_ ?_); rotate_left; focus (first | (simp; done) | (simp; omega)))))
  have hB_w1_5 := below_step (w := w1) hb5 (by repeat (first | (with_reducible assumption) | (with_reducible exact Below.refl _ _) | (with_reducible refine Below.drew ?_) | (with_reducible refine below_drewN' ?_ _) | (with_reducible refine below_al ?_) | ((with_reducible refine below_set ?_ ?_); rotate_left; focus (first | (simp; done) | (simp; omega)))))
  have hB_w2_5 := below_step (w := w2) hb5 (by repeat (first | (with_reducible assumption) | (with_reducible exact Below.refl _ _) | (with_reducible refine Below.drew ?_) | (with_reducible refine below_drewN' ?_ _) | (with_reducible refine below_al ?_) | ((with_reducible refine below_set ?_ ?_); rotate_left; focus (first | (simp; done) | (simp; omega)))))
  have hB_w3_5 := below_step (w := w3) hb5 (by repeat (first | (with_reducible assumption) | (with_reducible exact Below.refl _ _) | (with_reducible refine Below.drew ?_) | (with_reducible refine below_drewN' ?_ _) | (with_reducible refine below_al ?_) | ((with_reducible refine below_set ?_ ?_); rotate_left; focus (first | (simp; done) | (simp; omega)))))
  have hB_w4_5 := below_step (w := w4) hb5 (by repeat (first | (with_reducible assumption) | (with_reducible exact Below.refl _ _) | (with_reducible refine Below.drew ?_) | (with_reducible refine below_drewN' ?_ _) | (with_reducible refine below_al ?_) | ((with_reducible refine below_set ?_ ?_); rotate_left; focus (first | (simp; done) | (simp; omega)))))
  have le_w_w5 : w.heap.size ≤ w5.heap.size := by omega
  try have lt_w_w5 : w.heap.size < w5.heap.size := by omega
  try have lp01_w_w5 : w.heap.size < w5.heap.size + 1 := by omega
  try have lp02_w_w5 : w.heap.size < w5.heap.size + 1 + 1 := by omega
  try have lp03_w_w5 : w.heap.size < w5.heap.size + 1 + 1 + 1 := by omega
  try have lp11_w_w5 : w.heap.size + 1 < w5.heap.size + 1 := by omega
  try have lp12_w_w5 : w.heap.size + 1 < w5.heap.size + 1 + 1 := by omega
  try have lp13_w_w5 : w.heap.size + 1 < w5.heap.size + 1 + 1 + 1 := by omega
  try have lp22_w_w5 : w.heap.size + 1 + 1 < w5.heap.size + 1 + 1 := by omega
  try have lp23_w_w5 : w.heap.size + 1 + 1 < w5.heap.size + 1 + 1 + 1 := by omega
  try have le1_w_w5 : w.heap.size + 1 ≤ w5.heap.size := by omega
  try have lt1_w_w5 : w.heap.size + 1 < w5.heap.size := by omega
  try have le2_w_w5 : w.heap.size + 1 + 1 ≤ w5.heap.size := by omega
  try have lt2_w_w5 : w.heap.size + 1 + 1 < w5.heap.size := by omega
  have le_w1_w5 : w1.heap.size ≤ w5.heap.size := by omega
  try have lt_w1_w5 : w1.heap.size < w5.heap.size := by omega
  try have lp01_w1_w5 : w1.heap.size < w5.heap.size + 1 := by omega
  try have lp02_w1_w5 : w1.heap.size < w5.heap.size + 1 + 1 := by omega
  try have lp03_w1_w5 : w1.heap.size < w5.heap.size + 1 + 1 + 1 := by omega
  try have lp11_w1_w5 : w1.heap.size + 1 < w5.heap.size + 1 := by omega
  try have lp12_w1_w5 : w1.heap.size + 1 < w5.heap.size + 1 + 1 := by omega
  try have lp13_w1_w5 : w1.heap.size + 1 < w5.heap.size + 1 + 1 + 1 := by omega
  try have lp22_w1_w5 : w1.heap.size + 1 + 1 < w5.heap.size + 1 + 1 := by omega
  try have lp23_w1_w5 : w1.heap.size + 1 + 1 < w5.heap.size + 1 + 1 + 1 := by omega
  try have le1_w1_w5 : w1.heap.size + 1 ≤ w5.heap.size := by omega
  try have lt1_w1_w5 : w1.heap.size + 1 < w5.heap.size := by omega
  try have le2_w1_w5 : w1.heap.size + 1 + 1 ≤ w5.heap.size := by omega
  try have lt2_w1_w5 : w1.heap.size + 1 + 1 < w5.heap.size := by omega
  have le_w2_w5 : w2.heap.size ≤ w5.heap.size := by omega
  try have lt_w2_w5 : w2.heap.size < w5.heap.size := by omega
  try have lp01_w2_w5 : w2.heap.size < w5.heap.size + 1 := by omega
  try have lp02_w2_w5 : w2.heap.size < w5.heap.size + 1 + 1 := by omega
  try have lp03_w2_w5 : w2.heap.size < w5.heap.size + 1 + 1 + 1 := by omega
  try have lp11_w2_w5 : w2.heap.size + 1 < w5.heap.size + 1 := by omega
  try have lp12_w2_w5 : w2.heap.size + 1 < w5.heap.size + 1 + 1 := by omega
  try have lp13_w2_w5 : w2.heap.size + 1 < w5.heap.size + 1 + 1 + 1 := by omega
  try have lp22_w2_w5 : w2.heap.size + 1 + 1 < w5.heap.size + 1 + 1 := by omega
  try have lp23_w2_w5 : w2.heap.size + 1 + 1 < w5.heap.size + 1 + 1 + 1 := by omega
  try have le1_w2_w5 : w2.heap.size + 1 ≤ w5.heap.size := by omega
  try have lt1_w2_w5 : w2.heap.size + 1 < w5.heap.size := by omega
  try have le2_w2_w5 : w2.heap.size + 1 + 1 ≤ w5.heap.size := by omega
  try have lt2_w2_w5 : w2.heap.size + 1 + 1 < w5.heap.size := by omega
  have le_w3_w5 : w3.heap.size ≤ w5.heap.size := by omega
  try have lt_w3_w5 : w3.heap.size < w5.heap.size := by omega
  try have lp01_w3_w5 : w3.heap.size < w5.heap.size + 1 := by omega
  try have lp02_w3_w5 : w3.heap.size < w5.heap.size + 1 + 1 := by omega
  try have lp03_w3_w5 : w3.heap.size < w5.heap.size + 1 + 1 + 1 := by omega
  try have lp11_w3_w5 : w3.heap.size + 1 < w5.heap.size + 1 := by omega
  try have lp12_w3_w5 : w3.heap.size + 1 < w5.heap.size + 1 + 1 := by omega
  try have lp13_w3_w5 : w3.heap.size + 1 < w5.heap.size + 1 + 1 + 1 := by omega
  try have lp22_w3_w5 : w3.heap.size + 1 + 1 < w5.heap.size + 1 + 1 := by omega
  try have lp23_w3_w5 : w3.heap.size + 1 + 1 < w5.heap.size + 1 + 1 + 1 := by omega
  try have le1_w3_w5 : w3.heap.size + 1 ≤ w5.heap.size := by omega
  try have lt1_w3_w5 : w3.heap.size + 1 < w5.heap.size := by omega
  try have le2_w3_w5 : w3.heap.size + 1 + 1 ≤ w5.heap.size := by omega
  try have lt2_w3_w5 : w3.heap.size + 1 + 1 < w5.heap.size := by omega
  have le_w4_w5 : w4.heap.size ≤ w5.heap.size := by omega
  try have lt_w4_w5 : w4.heap.size < w5.heap.size := by omega
  try have lp01_w4_w5 : w4.heap.size < w5.heap.size + 1 := by omega
  try have lp02_w4_w5 : w4.heap.size < w5.heap.size + 1 + 1 := by omega
  try have lp03_w4_w5 : w4.heap.size < w5.heap.size + 1 + 1 + 1 := by omega
  try have lp11_w4_w5 : w4.heap.size + 1 < w5.heap.size + 1 := by omega
  try have lp12_w4_w5 : w4.heap.size + 1 < w5.heap.size + 1 + 1 := by omega
  try have lp13_w4_w5 : w4.heap.size + 1 < w5.heap.size + 1 + 1 + 1 := by omega
  try have lp22_w4_w5 : w4.heap.size + 1 + 1 < w5.heap.size + 1 + 1 := by omega
  try have lp23_w4_w5 : w4.heap.size + 1 + 1 < w5.heap.size + 1 + 1 + 1 := by omega
  try have le1_w4_w5 : w4.heap.size + 1 ≤ w5.heap.size := by omega
  try have lt1_w4_w5 : w4.heap.size + 1 < w5.heap.size := by omega
  try have le2_w4_w5 : w4.heap.size + 1 + 1 ≤ w5.heap.size := by omega
  try have lt2_w4_w5 : w4.heap.size + 1 + 1 < w5.heap.size := by omega
  have s1_w5 : w5.heap.size < w5.heap.size + 1 + 1 := by omega
  have s2_w5 : w5.heap.size < w5.heap.size + 1 + 1 + 1 := by omega
  go_wp2_with fail
  refine (bcmp_c _ _ _ _ r 4611686018427387904 _ _ HLR HLM (by omega) (by omega) _ (hR.below (by repeat (first | (with_reducible assumption) | (with_reducible exact Below.refl _ _) | (with_reducible refine Below.drew ?_) | (with_reducible refine below_drewN' ?_ _) | (with_reducible refine below_al ?_) | ((with_reducible refine below_set ?_ ?_); rotate_left; focus (first | (simp; done) | (simp; omega)))))) (hM.below (by repeat (first | (with_reducible assumption) | (with_reducible exact Below.refl _ _) | (with_reducible refine Below.drew ?_) | (with_reducible refine below_drewN' ?_ _) | (with_reducible refine below_al ?_) | ((with_reducible refine below_set ?_ ?_); rotate_left; focus (first | (simp; done) | (simp; omega))))))).mono ?_; rintro e w6 ⟨rfl, hb6⟩
  have hz6 := hb6.size; (try simp at hz6); obtain ⟨hc6, hf6⟩ := bcell hb6
  have hB_w_6 := below_step (w := w) hb6 (by repeat (first | (with_reducible assumption) | (with_reducible exact Below.refl _ _) | (with_reducible refine Below.drew ?_) | (with_reducible refine below_drewN' ?_ _) | (with_reducible refine below_al ?_) | ((with_reducible refine below_set ?_ ?_); rotate_left; focus (first | (simp; done) | (simp; omega)))))
  have hB_w1_6 := below_step (w := w1) hb6 (by repeat (first | (with_reducible assumption) | (with_reducible exact Below.refl _ _) | (with_reducible refine Below.drew ?_) | (with_reducible refine below_drewN' ?_ _) | (with_reducible refine below_al ?_) | ((with_reducible refine below_set ?_ ?_); rotate_left; focus (first | (simp; done) | (simp; omega)))))
  have hB_w2_6 := below_step (w := w2) hb6 (by repeat (first | (with_reducible assumption) | (with_reducible exact Below.refl _ _) | (with_reducible refine Below.drew ?_) | (with_reducible refine below_drewN' ?_ _) | (with_reducible refine below_al ?_) | ((with_reducible refine below_set ?_ ?_); rotate_left; focus (first | (simp; done) | (simp; omega)))))
  have hB_w3_6 := below_step (w := w3) hb6 (by repeat (first | (with_reducible assumption) | (with_reducible exact Below.refl _ _) | (with_reducible refine Below.drew ?_) | (with_reducible refine below_drewN' ?_ _) | (with_reducible refine below_al ?_) | ((with_reducible refine below_set ?_ ?_); rotate_left; focus (first | (simp; done) | (simp; omega)))))
  have hB_w4_6 := below_step (w := w4) hb6 (by repeat (first | (with_reducible assumption) | (with_reducible exact Below.refl _ _) | (with_reducible refine Below.drew ?_) | (with_reducible refine below_drewN' ?_ _) | (with_reducible refine below_al ?_) | ((with_reducible refine below_set ?_ ?_); rotate_left; focus (first | (simp; done) | (simp; omega)))))
  have hB_w5_6 := below_step (w := w5) hb6 (by repeat (first | (with_reducible assumption) | (with_reducible exact Below.refl _ _) | (with_reducible refine Below.drew ?_) | (with_reducible refine below_drewN' ?_ _) | (with_reducible refine below_al ?_) | ((with_reducible refine below_set ?_ ?_); rotate_left; focus (first | (simp; done) | (simp; omega)))))
  have le_w_w6 : w.heap.size ≤ w6.heap.size := by omega
  try have lt_w_w6 : w.heap.size < w6.heap.size := by omega
  try have lp01_w_w6 : w.heap.size < w6.heap.size + 1 := by omega
  try have lp02_w_w6 : w.heap.size < w6.heap.size + 1 + 1 := by omega
  try have lp03_w_w6 : w.heap.size < w6.heap.size + 1 + 1 + 1 := by omega
  try have lp11_w_w6 : w.heap.size + 1 < w6.heap.size + 1 := by omega
  try have lp12_w_w6 : w.heap.size + 1 < w6.heap.size + 1 + 1 := by omega
  try have lp13_w_w6 : w.heap.size + 1 < w6.heap.size + 1 + 1 + 1 := by omega
  try have lp22_w_w6 : w.heap.size + 1 + 1 < w6.heap.size + 1 + 1 := by omega
  try have lp23_w_w6 : w.heap.size + 1 + 1 < w6.heap.size + 1 + 1 + 1 := by omega
  try have le1_w_w6 : w.heap.size + 1 ≤ w6.heap.size := by omega
  try have lt1_w_w6 : w.heap.size + 1 < w6.heap.size := by omega
  try have le2_w_w6 : w.heap.size + 1 + 1 ≤ w6.heap.size := by omega
  try have lt2_w_w6 : w.heap.size + 1 + 1 < w6.heap.size := by omega
  have le_w1_w6 : w1.heap.size ≤ w6.heap.size := by omega
  try have lt_w1_w6 : w1.heap.size < w6.heap.size := by omega
  try have lp01_w1_w6 : w1.heap.size < w6.heap.size + 1 := by omega
  try have lp02_w1_w6 : w1.heap.size < w6.heap.size + 1 + 1 := by omega
  try have lp03_w1_w6 : w1.heap.size < w6.heap.size + 1 + 1 + 1 := by omega
  try have lp11_w1_w6 : w1.heap.size + 1 < w6.heap.size + 1 := by omega
  try have lp12_w1_w6 : w1.heap.size + 1 < w6.heap.size + 1 + 1 := by omega
  try have lp13_w1_w6 : w1.heap.size + 1 < w6.heap.size + 1 + 1 + 1 := by omega
  try have lp22_w1_w6 : w1.heap.size + 1 + 1 < w6.heap.size + 1 + 1 := by omega
  try have lp23_w1_w6 : w1.heap.size + 1 + 1 < w6.heap.size + 1 + 1 + 1 := by omega
  try have le1_w1_w6 : w1.heap.size + 1 ≤ w6.heap.size := by omega
  try have lt1_w1_w6 : w1.heap.size + 1 < w6.heap.size := by omega
  try have le2_w1_w6 : w1.heap.size + 1 + 1 ≤ w6.heap.size := by omega
  try have lt2_w1_w6 : w1.heap.size + 1 + 1 < w6.heap.size := by omega
  have le_w2_w6 : w2.heap.size ≤ w6.heap.size := by omega
  try have lt_w2_w6 : w2.heap.size < w6.heap.size := by omega
  try have lp01_w2_w6 : w2.heap.size < w6.heap.size + 1 := by omega
  try have lp02_w2_w6 : w2.heap.size < w6.heap.size + 1 + 1 := by omega
  try have lp03_w2_w6 : w2.heap.size < w6.heap.size + 1 + 1 + 1 := by omega
  try have lp11_w2_w6 : w2.heap.size + 1 < w6.heap.size + 1 := by omega
  try have lp12_w2_w6 : w2.heap.size + 1 < w6.heap.size + 1 + 1 := by omega
  try have lp13_w2_w6 : w2.heap.size + 1 < w6.heap.size + 1 + 1 + 1 := by omega
  try have lp22_w2_w6 : w2.heap.size + 1 + 1 < w6.heap.size + 1 + 1 := by omega
  try have lp23_w2_w6 : w2.heap.size + 1 + 1 < w6.heap.size + 1 + 1 + 1 := by omega
  try have le1_w2_w6 : w2.heap.size + 1 ≤ w6.heap.size := by omega
  try have lt1_w2_w6 : w2.heap.size + 1 < w6.heap.size := by omega
  try have le2_w2_w6 : w2.heap.size + 1 + 1 ≤ w6.heap.size := by omega
  try have lt2_w2_w6 : w2.heap.size + 1 + 1 < w6.heap.size := by omega
  have le_w3_w6 : w3.heap.size ≤ w6.heap.size := by omega
  try have lt_w3_w6 : w3.heap.size < w6.heap.size := by omega
  try have lp01_w3_w6 : w3.heap.size < w6.heap.size + 1 := by omega
  try have lp02_w3_w6 : w3.heap.size < w6.heap.size + 1 + 1 := by omega
  try have lp03_w3_w6 : w3.heap.size < w6.heap.size + 1 + 1 + 1 := by omega
  try have lp11_w3_w6 : w3.heap.size + 1 < w6.heap.size + 1 := by omega
  try have lp12_w3_w6 : w3.heap.size + 1 < w6.heap.size + 1 + 1 := by omega
  try have lp13_w3_w6 : w3.heap.size + 1 < w6.heap.size + 1 + 1 + 1 := by omega
  try have lp22_w3_w6 : w3.heap.size + 1 + 1 < w6.heap.size + 1 + 1 := by omega
  try have lp23_w3_w6 : w3.heap.size + 1 + 1 < w6.heap.size + 1 + 1 + 1 := by omega
  try have le1_w3_w6 : w3.heap.size + 1 ≤ w6.heap.size := by omega
  try have lt1_w3_w6 : w3.heap.size + 1 < w6.heap.size := by omega
  try have le2_w3_w6 : w3.heap.size + 1 + 1 ≤ w6.heap.size := by omega
  try have lt2_w3_w6 : w3.heap.size + 1 + 1 < w6.heap.size := by omega
  have le_w4_w6 : w4.heap.size ≤ w6.heap.size := by omega
  try have lt_w4_w6 : w4.heap.size < w6.heap.size := by omega
  try have lp01_w4_w6 : w4.heap.size < w6.heap.size + 1 := by omega
  try have lp02_w4_w6 : w4.heap.size < w6.heap.size + 1 + 1 := by omega
  try have lp03_w4_w6 : w4.heap.size < w6.heap.size + 1 + 1 + 1 := by omega
  try have lp11_w4_w6 : w4.heap.size + 1 < w6.heap.size + 1 := by omega
  try have lp12_w4_w6 : w4.heap.size + 1 < w6.heap.size + 1 + 1 := by omega
  try have lp13_w4_w6 : w4.heap.size + 1 < w6.heap.size + 1 + 1 + 1 := by omega
  try have lp22_w4_w6 : w4.heap.size + 1 + 1 < w6.heap.size + 1 + 1 := by omega
  try have lp23_w4_w6 : w4.heap.size + 1 + 1 < w6.heap.size + 1 + 1 + 1 := by omega
  try have le1_w4_w6 : w4.heap.size + 1 ≤ w6.heap.size := by omega
  try have lt1_w4_w6 : w4.heap.size + 1 < w6.heap.size := by omega
  try have le2_w4_w6 : w4.heap.size + 1 + 1 ≤ w6.heap.size := by omega
  try have lt2_w4_w6 : w4.heap.size + 1 + 1 < w6.heap.size := by omega
  have le_w5_w6 : w5.heap.size ≤ w6.heap.size := by omega
  try have lt_w5_w6 : w5.heap.size < w6.heap.size := by omega
  try have lp01_w5_w6 : w5.heap.size < w6.heap.size + 1 := by omega
  try have lp02_w5_w6 : w5.heap.size < w6.heap.size + 1 + 1 := by omega
  try have lp03_w5_w6 : w5.heap.size < w6.heap.size + 1 + 1 + 1 := by omega
  try have lp11_w5_w6 : w5.heap.size + 1 < w6.heap.size + 1 := by omega
  try have lp12_w5_w6 : w5.heap.size + 1 < w6.heap.size + 1 + 1 := by omega
  try have lp13_w5_w6 : w5.heap.size + 1 < w6.heap.size + 1 + 1 + 1 := by omega
  try have lp22_w5_w6 : w5.heap.size + 1 + 1 < w6.heap.size + 1 + 1 := by omega
  try have lp23_w5_w6 : w5.heap.size + 1 + 1 < w6.heap.size + 1 + 1 + 1 := by omega
  try have le1_w5_w6 : w5.heap.size + 1 ≤ w6.heap.size := by omega
  try have lt1_w5_w6 : w5.heap.size + 1 < w6.heap.size := by omega
  try have le2_w5_w6 : w5.heap.size + 1 + 1 ≤ w6.heap.size := by omega
  try have lt2_w5_w6 : w5.heap.size + 1 + 1 < w6.heap.size := by omega
  have s1_w6 : w6.heap.size < w6.heap.size + 1 + 1 := by omega
  have s2_w6 : w6.heap.size < w6.heap.size + 1 + 1 + 1 := by omega
  have HD := Lib.hid (And.intro (hQ.below hB_w2_6) (hR.below hB_w3_6))
  clear hQ hR hM hG
  have G0 : w6.cell? ⟨w.heap.size + 1 + 1, 0, none⟩ = some (.int .i64 0) := below_some hB_w1_6 _ _ _ (below_some hb1 _ _ _ (cell_nu (by simp) rfl))
  have G1 : w6.cell? ⟨w.heap.size + 1 + 1, 1, none⟩ = some (.int .i64 0) := below_some hB_w1_6 _ _ _ (below_some hb1 _ _ _ (cell_nu (by simp) rfl))
  have G2 : w6.cell? ⟨w2.heap.size, 0, none⟩ = some (.slice QA lq qc) := below_some hB_w3_6 _ _ _ (below_some hb3 _ _ _ (cell_al (cell_nu rfl rfl)))
  have G3 : w6.cell? ⟨w3.heap.size, 0, none⟩ = some (.slice RA lr rc) := below_some hB_w4_6 _ _ _ (below_some hb4 _ _ _ (cell_al (cell_nu rfl rfl)))
  have F0 : w6.frozen? ⟨w.heap.size + 1 + 1, 0, none⟩ = false := (hB_w1_6.frozen (p := ⟨w.heap.size + 1 + 1, 0, none⟩) lt2_w_w1).trans ((hb1.frozen (p := ⟨w.heap.size + 1 + 1, 0, none⟩) (by simp)).trans (blk_free (blk_nu (by simp))))
  have F1 : w6.frozen? ⟨w.heap.size + 1 + 1, 1, none⟩ = false := (hB_w1_6.frozen (p := ⟨w.heap.size + 1 + 1, 1, none⟩) lt2_w_w1).trans ((hb1.frozen (p := ⟨w.heap.size + 1 + 1, 1, none⟩) (by simp)).trans (blk_free (blk_nu (by simp))))
  have hR6 : Below w6.heap.size w6 w6 := Below.refl _ _
  go_wp2_with fail
  go_region_with (first | (go_at_call_of 86 (QA); refine (bvalue_c _ _ q _ (by omega) HLQ (by omega) _ (HD.out.1.below (by repeat (first | (with_reducible assumption) | (with_reducible exact Below.refl _ _) | (with_reducible refine Below.drew ?_) | (with_reducible refine below_drewN' ?_ _) | (with_reducible refine below_al ?_) | ((with_reducible refine below_set ?_ ?_); rotate_left; focus (first | (simp; done) | (simp; omega))))))).mono ?_; rintro e wq ⟨rfl, hb⟩; have hz := hb.size; (try simp at hz); have hBq := below_step (w := w) hb (by repeat (first | (with_reducible assumption) | (with_reducible exact Below.refl _ _) | (with_reducible refine Below.drew ?_) | (with_reducible refine below_drewN' ?_ _) | (with_reducible refine below_al ?_) | ((with_reducible refine below_set ?_ ?_); rotate_left; focus (first | (simp; done) | (simp; omega))))); have hRq := below_step (w := w6) hb (by repeat (first | (with_reducible assumption) | (with_reducible exact Below.refl _ _) | (with_reducible refine Below.drew ?_) | (with_reducible refine below_drewN' ?_ _) | (with_reducible refine below_al ?_) | ((with_reducible refine below_set ?_ ?_); rotate_left; focus (first | (simp; done) | (simp; omega))))); have r0 := below_some hRq _ _ _ G0; have r1 := below_some hRq _ _ _ G1; have r2 := below_some hRq _ _ _ G2; have r3 := below_some hRq _ _ _ G3; have s0 := (hRq.frozen (p := ⟨w.heap.size + 1 + 1, 0, none⟩) lt2_w_w6).trans F0; have s1 := (hRq.frozen (p := ⟨w.heap.size + 1 + 1, 1, none⟩) lt2_w_w6).trans F1) | (go_at_call 86; refine (bvalue_c _ _ r _ (by omega) HLR (by omega) _ (HD.out.2.below (by repeat (first | (with_reducible assumption) | (with_reducible exact Below.refl _ _) | (with_reducible refine Below.drew ?_) | (with_reducible refine below_drewN' ?_ _) | (with_reducible refine below_al ?_) | ((with_reducible refine below_set ?_ ?_); rotate_left; focus (first | (simp; done) | (simp; omega))))))).mono ?_; rintro e wq ⟨rfl, hb⟩; have hz := hb.size; (try simp at hz); have hBq := below_step (w := w) hb (by repeat (first | (with_reducible assumption) | (with_reducible exact Below.refl _ _) | (with_reducible refine Below.drew ?_) | (with_reducible refine below_drewN' ?_ _) | (with_reducible refine below_al ?_) | ((with_reducible refine below_set ?_ ?_); rotate_left; focus (first | (simp; done) | (simp; omega))))); have hRq := below_step (w := w6) hb (by repeat (first | (with_reducible assumption) | (with_reducible exact Below.refl _ _) | (with_reducible refine Below.drew ?_) | (with_reducible refine below_drewN' ?_ _) | (with_reducible refine below_al ?_) | ((with_reducible refine below_set ?_ ?_); rotate_left; focus (first | (simp; done) | (simp; omega))))); have r0 := below_some hRq _ _ _ G0; have r1 := below_some hRq _ _ _ G1; have r2 := below_some hRq _ _ _ G2; have r3 := below_some hRq _ _ _ G3; have s0 := (hRq.frozen (p := ⟨w.heap.size + 1 + 1, 0, none⟩) lt2_w_w6).trans F0; have s1 := (hRq.frozen (p := ⟨w.heap.size + 1 + 1, 1, none⟩) lt2_w_w6).trans F1))
  all_goals go_wp2_with fail
  all_goals refine bodyPost_ret (v := .tuple #[.agg #[.int .i64 (q : Int), .int .i64 (r : Int)], .int .i64 0]) (by simp [results, Tryd.results69, go_sem, *]) rfl ⟨rfl, ?_⟩
  all_goals repeat (first | assumption | exact Below.refl _ _ | (with_reducible refine Below.drew ?_) | (with_reducible refine below_drewN' ?_ _) | (with_reducible refine below_al ?_) | ((with_reducible refine below_set ?_ ?_); rotate_left; focus (first | (simp; done) | (simp; omega))))
end Go.Proofs.YtjcjchapfiokeaaDoor
