/- Fractions of the document: of two numbers; the numbers of a fraction; two compared; the sum. Conditions: sizes far below the machine's, results within the bounds. -/
import Derived.Test.YtjcjchapfiokeaaDoorRatC
namespace Go.Proofs.YtjcjchapfiokeaaDoor
open Go.RowKit
set_option linter.unusedVariables false
set_option linter.unusedSimpArgs false
theorem dg_five {n : Nat} (h : n ≤ 4611686018427387904) : (dg n).length ≤ 5 := dg_le (by omega)
set_option maxRecDepth 100000 in
set_option maxHeartbeats 4000000 in
theorem dnew_c (n m : Nat) (hn : n ≤ 4611686018427387904) (hm : 0 < m) (hm2 : m ≤ 4611686018427387904) (w : World) : Calls Tryd.prog 37 #[.int .i64 (n : Int), .int .i64 (m : Int)] w fun e w' => e = .returned (.tuple #[.agg #[.int .i64 (Thi.rN n m), .int .i64 (Thi.rD n m)], .int .i64 0]) ∧ Below w.heap.size w w' := by
  have d1 : decide ((n : Int) < 0) = false := decide_eq_false (by omega)
  have d2 : decide ((m : Int) < 0) = false := decide_eq_false (by omega)
  have d3 : ((m : Int) == 0) = false := beq_eq_false_iff_ne.2 (by omega)
  obtain ⟨la, hla⟩ : ∃ la, (dg n).length = la := ⟨_, rfl⟩
  obtain ⟨lb, hlb⟩ : ∃ lb, (dg m).length = lb := ⟨_, rfl⟩
  have bla := dg_five hn; have blb := dg_five hm2; rw [hla] at bla; rw [hlb] at blb
  have HLA := Lib.hid hla; have HLB := Lib.hid hlb; clear hla hlb
  have n1 : n / Nat.gcd n m ≤ 4611686018427387904 := Nat.le_trans (Nat.div_le_self _ _) hn
  have n2 : m / Nat.gcd n m ≤ 4611686018427387904 := Nat.le_trans (Nat.div_le_self _ _) hm2
  have HN := Lib.hid (And.intro n1 n2); clear n1 n2
  have hB : Below w.heap.size w w := Below.refl _ _
  go_enter Tryd.func37, Tryd.ntmps37
  go_wp2_with fail
  refine (from_c n (by omega) _).mono ?_; rintro e w1 ⟨A, ca, rfl, hA, hb1⟩
  have hz1 := hb1.size; (try simp at hz1); obtain ⟨hc1, hf1⟩ := bcell hb1
  have hB_w_1 := below_step (w := w) hb1 (by repeat (first | (with_reducible assumption) | (with_reducible exact Below.refl _ _) | (with_reducible refine Below.drew ?_) | (with_reducible refine below_drewN' ?_ _) | (with_reducible refine below_al ?_) | ((with_reducible refine below_set ?_ ?_); rotate_left; focus (first | (simp; done) | (simp; omega)))))
  have le_w_w1 : w.heap.size ≤ w1.heap.size := by omega
  try have lt_w_w1 : w.heap.size < w1.heap.size := by omega
  try have lp01_w_w1 : w.heap.size < w1.heap.size + 1 := by omega
  try have lp02_w_w1 : w.heap.size < w1.heap.size + 1 + 1 := by omega
  try have lp03_w_w1 : w.heap.size < w1.heap.size + 1 + 1 + 1 := by omega
  try have lp11_w_w1 : w.heap.size + 1 < w1.heap.size + 1 := by omega
  try have lp12_w_w1 : w.heap.size + 1 < w1.heap.size + 1 + 1 := by omega
  try have lp13_w_w1 : w.heap.size + 1 < w1.heap.size + 1 + 1 + 1 := by omega
  try have lp22_w_w1 : w.heap.size + 1 + 1 < w1.heap.size + 1 + 1 := by omega
  try have lp23_w_w1 : w.heap.size + 1 + 1 < w1.heap.size + 1 + 1 + 1 := by omega
  have s1_w1 : w1.heap.size < w1.heap.size + 1 + 1 := by omega
  have s2_w1 : w1.heap.size < w1.heap.size + 1 + 1 + 1 := by omega
  rw [HLA.out]
  have hA := hA.to (Nat.le_refl _)
  go_wp2_with fail
  refine (from_c m (by omega) _).mono ?_; rintro e w2 ⟨B, cb, rfl, hB', hb2⟩
  have hz2 := hb2.size; (try simp at hz2); obtain ⟨hc2, hf2⟩ := bcell hb2
  have hB_w_2 := below_step (w := w) hb2 (by repeat (first | (with_reducible assumption) | (with_reducible exact Below.refl _ _) | (with_reducible refine Below.drew ?_) | (with_reducible refine below_drewN' ?_ _) | (with_reducible refine below_al ?_) | ((with_reducible refine below_set ?_ ?_); rotate_left; focus (first | (simp; done) | (simp; omega)))))
  have hB_w1_2 := below_step (w := w1) hb2 (by repeat (first | (with_reducible assumption) | (with_reducible exact Below.refl _ _) | (with_reducible refine Below.drew ?_) | (with_reducible refine below_drewN' ?_ _) | (with_reducible refine below_al ?_) | ((with_reducible refine below_set ?_ ?_); rotate_left; focus (first | (simp; done) | (simp; omega)))))
  have le_w_w2 : w.heap.size ≤ w2.heap.size := by omega
  try have lt_w_w2 : w.heap.size < w2.heap.size := by omega
  try have lp01_w_w2 : w.heap.size < w2.heap.size + 1 := by omega
  try have lp02_w_w2 : w.heap.size < w2.heap.size + 1 + 1 := by omega
  try have lp03_w_w2 : w.heap.size < w2.heap.size + 1 + 1 + 1 := by omega
  try have lp11_w_w2 : w.heap.size + 1 < w2.heap.size + 1 := by omega
  try have lp12_w_w2 : w.heap.size + 1 < w2.heap.size + 1 + 1 := by omega
  try have lp13_w_w2 : w.heap.size + 1 < w2.heap.size + 1 + 1 + 1 := by omega
  try have lp22_w_w2 : w.heap.size + 1 + 1 < w2.heap.size + 1 + 1 := by omega
  try have lp23_w_w2 : w.heap.size + 1 + 1 < w2.heap.size + 1 + 1 + 1 := by omega
  have le_w1_w2 : w1.heap.size ≤ w2.heap.size := by omega
  try have lt_w1_w2 : w1.heap.size < w2.heap.size := by omega
  try have lp01_w1_w2 : w1.heap.size < w2.heap.size + 1 := by omega
  try have lp02_w1_w2 : w1.heap.size < w2.heap.size + 1 + 1 := by omega
  try have lp03_w1_w2 : w1.heap.size < w2.heap.size + 1 + 1 + 1 := by omega
  try have lp11_w1_w2 : w1.heap.size + 1 < w2.heap.size + 1 := by omega
  try have lp12_w1_w2 : w1.heap.size + 1 < w2.heap.size + 1 + 1 := by omega
  try have lp13_w1_w2 : w1.heap.size + 1 < w2.heap.size + 1 + 1 + 1 := by omega
  try have lp22_w1_w2 : w1.heap.size + 1 + 1 < w2.heap.size + 1 + 1 := by omega
  try have lp23_w1_w2 : w1.heap.size + 1 + 1 < w2.heap.size + 1 + 1 + 1 := by omega
  try have le1_w1_w2 : w1.heap.size + 1 ≤ w2.heap.size := by omega
  try have lt1_w1_w2 : w1.heap.size + 1 < w2.heap.size := by omega
  try have le2_w1_w2 : w1.heap.size + 1 + 1 ≤ w2.heap.size := by omega
  try have lt2_w1_w2 : w1.heap.size + 1 + 1 < w2.heap.size := by omega
  have s1_w2 : w2.heap.size < w2.heap.size + 1 + 1 := by omega
  have s2_w2 : w2.heap.size < w2.heap.size + 1 + 1 + 1 := by omega
  rw [HLB.out]
  have hB' := hB'.to (Nat.le_refl _)
  go_wp2_with fail
  refine (made_c _ _ _ _ n m _ _ HLA HLB (by omega) (by omega) hm HN.out.1 HN.out.2 _ (hA.below (by repeat (first | (with_reducible assumption) | (with_reducible exact Below.refl _ _) | (with_reducible refine Below.drew ?_) | (with_reducible refine below_drewN' ?_ _) | (with_reducible refine below_al ?_) | ((with_reducible refine below_set ?_ ?_); rotate_left; focus (first | (simp; done) | (simp; omega)))))) (hB'.below (by repeat (first | (with_reducible assumption) | (with_reducible exact Below.refl _ _) | (with_reducible refine Below.drew ?_) | (with_reducible refine below_drewN' ?_ _) | (with_reducible refine below_al ?_) | ((with_reducible refine below_set ?_ ?_); rotate_left; focus (first | (simp; done) | (simp; omega))))))).mono ?_; rintro e w3 ⟨rfl, hb3⟩
  have hz3 := hb3.size; (try simp at hz3); obtain ⟨hc3, hf3⟩ := bcell hb3
  have hB_w_3 := below_step (w := w) hb3 (by repeat (first | (with_reducible assumption) | (with_reducible exact Below.refl _ _) | (with_reducible refine Below.drew ?_) | (with_reducible refine below_drewN' ?_ _) | (with_reducible refine below_al ?_) | ((with_reducible refine below_set ?_ ?_); rotate_left; focus (first | (simp; done) | (simp; omega)))))
  have hB_w1_3 := below_step (w := w1) hb3 (by repeat (first | (with_reducible assumption) | (with_reducible exact Below.refl _ _) | (with_reducible refine Below.drew ?_) | (with_reducible refine below_drewN' ?_ _) | (with_reducible refine below_al ?_) | ((with_reducible refine below_set ?_ ?_); rotate_left; focus (first | (simp; done) | (simp; omega)))))
  have hB_w2_3 := below_step (w := w2) hb3 (by repeat (first | (with_reducible assumption) | (with_reducible exact Below.refl _ _) | (with_reducible refine Below.drew ?_) | (with_reducible refine below_drewN' ?_ _) | (with_reducible refine below_al ?_) | ((with_reducible refine below_set ?_ ?_); rotate_left; focus (first | (simp; done) | (simp; omega)))))
  have le_w_w3 : w.heap.size ≤ w3.heap.size := by omega
  try have lt_w_w3 : w.heap.size < w3.heap.size := by omega
  try have lp01_w_w3 : w.heap.size < w3.heap.size + 1 := by omega
  try have lp02_w_w3 : w.heap.size < w3.heap.size + 1 + 1 := by omega
  try have lp03_w_w3 : w.heap.size < w3.heap.size + 1 + 1 + 1 := by omega
  try have lp11_w_w3 : w.heap.size + 1 < w3.heap.size + 1 := by omega
  try have lp12_w_w3 : w.heap.size + 1 < w3.heap.size + 1 + 1 := by omega
  try have lp13_w_w3 : w.heap.size + 1 < w3.heap.size + 1 + 1 + 1 := by omega
  try have lp22_w_w3 : w.heap.size + 1 + 1 < w3.heap.size + 1 + 1 := by omega
  try have lp23_w_w3 : w.heap.size + 1 + 1 < w3.heap.size + 1 + 1 + 1 := by omega
  have le_w1_w3 : w1.heap.size ≤ w3.heap.size := by omega
  try have lt_w1_w3 : w1.heap.size < w3.heap.size := by omega
  try have lp01_w1_w3 : w1.heap.size < w3.heap.size + 1 := by omega
  try have lp02_w1_w3 : w1.heap.size < w3.heap.size + 1 + 1 := by omega
  try have lp03_w1_w3 : w1.heap.size < w3.heap.size + 1 + 1 + 1 := by omega
  try have lp11_w1_w3 : w1.heap.size + 1 < w3.heap.size + 1 := by omega
  try have lp12_w1_w3 : w1.heap.size + 1 < w3.heap.size + 1 + 1 := by omega
  try have lp13_w1_w3 : w1.heap.size + 1 < w3.heap.size + 1 + 1 + 1 := by omega
  try have lp22_w1_w3 : w1.heap.size + 1 + 1 < w3.heap.size + 1 + 1 := by omega
  try have lp23_w1_w3 : w1.heap.size + 1 + 1 < w3.heap.size + 1 + 1 + 1 := by omega
  try have le1_w1_w3 : w1.heap.size + 1 ≤ w3.heap.size := by omega
  try have lt1_w1_w3 : w1.heap.size + 1 < w3.heap.size := by omega
  try have le2_w1_w3 : w1.heap.size + 1 + 1 ≤ w3.heap.size := by omega
  try have lt2_w1_w3 : w1.heap.size + 1 + 1 < w3.heap.size := by omega
  have le_w2_w3 : w2.heap.size ≤ w3.heap.size := by omega
  try have lt_w2_w3 : w2.heap.size < w3.heap.size := by omega
  try have lp01_w2_w3 : w2.heap.size < w3.heap.size + 1 := by omega
  try have lp02_w2_w3 : w2.heap.size < w3.heap.size + 1 + 1 := by omega
  try have lp03_w2_w3 : w2.heap.size < w3.heap.size + 1 + 1 + 1 := by omega
  try have lp11_w2_w3 : w2.heap.size + 1 < w3.heap.size + 1 := by omega
  try have lp12_w2_w3 : w2.heap.size + 1 < w3.heap.size + 1 + 1 := by omega
  try have lp13_w2_w3 : w2.heap.size + 1 < w3.heap.size + 1 + 1 + 1 := by omega
  try have lp22_w2_w3 : w2.heap.size + 1 + 1 < w3.heap.size + 1 + 1 := by omega
  try have lp23_w2_w3 : w2.heap.size + 1 + 1 < w3.heap.size + 1 + 1 + 1 := by omega
  try have le1_w2_w3 : w2.heap.size + 1 ≤ w3.heap.size := by omega
  try have lt1_w2_w3 : w2.heap.size + 1 < w3.heap.size := by omega
  try have le2_w2_w3 : w2.heap.size + 1 + 1 ≤ w3.heap.size := by omega
  try have lt2_w2_w3 : w2.heap.size + 1 + 1 < w3.heap.size := by omega
  have s1_w3 : w3.heap.size < w3.heap.size + 1 + 1 := by omega
  have s2_w3 : w3.heap.size < w3.heap.size + 1 + 1 + 1 := by omega
  have G0 := below_some hB_w1_3 _ _ _ (below_some hb1 _ _ _ (cell_nu (k := w.heap.size) (i := 0) rfl rfl))
  have G1 := below_some hB_w1_3 _ _ _ (below_some hb1 _ _ _ (cell_nu (k := w.heap.size) (i := 1) rfl rfl))
  go_wp2_with fail
  refine bodyPost_ret (v := .tuple #[.agg #[.int .i64 (Thi.rN n m), .int .i64 (Thi.rD n m)], .int .i64 0]) (by simp [results, Tryd.results37, go_sem, G0, G1]) rfl ⟨rfl, ?_⟩
  repeat (first | assumption | exact Below.refl _ _ | (with_reducible refine Below.drew ?_) | (with_reducible refine below_drewN' ?_ _) | (with_reducible refine below_al ?_) | ((with_reducible refine below_set ?_ ?_); rotate_left; focus (first | (simp; done) | (simp; omega))))
def TwoRet (n m : Nat) (w : World) (e : Ending) (w' : World) : Prop := ∃ (A : Option Addr) (c : Nat) (B : Option Addr) (d : Nat), e = .returned (.tuple #[.agg #[.slice A (dg n).length c], .agg #[.slice B (dg m).length d]]) ∧ DIn w' A (dg n) ∧ DIn w' B (dg m) ∧ Below w.heap.size w w'
set_option maxRecDepth 100000 in
set_option maxHeartbeats 4000000 in
theorem big_c (n m : Nat) (hn : n ≤ 4611686018427387904) (hm2 : m ≤ 4611686018427387904) (w : World) : Calls Tryd.prog 72 #[.agg #[.int .i64 (n : Int), .int .i64 (m : Int)]] w (TwoRet n m w) := by
  obtain ⟨la, hla⟩ : ∃ la, (dg n).length = la := ⟨_, rfl⟩
  obtain ⟨lb, hlb⟩ : ∃ lb, (dg m).length = lb := ⟨_, rfl⟩
  have HLA := Lib.hid hla; have HLB := Lib.hid hlb; clear hla hlb
  have hB : Below w.heap.size w w := Below.refl _ _
  go_enter Tryd.func72, Tryd.ntmps72
  go_upto_region 1 with fail
  generalize hW : (((w.alloc _).alloc _).alloc _) = w0
  have hB0 : Below w.heap.size w w0 := by rw [← hW]; exact below_al (below_al (below_al (Below.refl _ _)))
  have hz0 : w0.heap.size = w.heap.size + 1 + 1 + 1 := by rw [← hW]; simp
  have HZ0 := Lib.hid hz0
  have G0 : w0.cell? ⟨w.heap.size, 0, none⟩ = some (.int .i64 (n : Int)) := by rw [← hW]; exact cell_al (cell_al (cell_nu rfl rfl))
  have G1 : w0.cell? ⟨w.heap.size, 1, none⟩ = some (.int .i64 (m : Int)) := by rw [← hW]; exact cell_al (cell_al (cell_nu rfl rfl))
  have G2 : w0.cell? ⟨w.heap.size + 1, 0, none⟩ = some (.slice none 0 0) := by rw [← hW]; exact cell_al (cell_nu (by simp) rfl)
  have G3 : w0.cell? ⟨w.heap.size + 1 + 1, 0, none⟩ = some (.slice none 0 0) := by rw [← hW]; exact cell_nu (by simp) rfl
  have F2 : w0.frozen? ⟨w.heap.size + 1, 0, none⟩ = false := by rw [← hW]; exact blk_free (blk_al (blk_nu (by simp)))
  have F3 : w0.frozen? ⟨w.heap.size + 1 + 1, 0, none⟩ = false := by rw [← hW]; exact blk_free (blk_nu (by simp))
  have hR0 : Below w0.heap.size w0 w0 := Below.refl _ _
  clear hW hz0
  go_wp2_with fail
  go_region_with (first | (go_at_call_of 70 (n : Int); refine (from_c n (by omega) _).mono ?_; rintro e wp1 ⟨A, ca, rfl, hA, hb⟩; rw [HLA.out]; have hBq := below_step (w := w) hb (by repeat (first | (with_reducible assumption) | (with_reducible exact Below.refl _ _) | (with_reducible refine Below.drew ?_) | (with_reducible refine below_drewN' ?_ _) | (with_reducible refine below_al ?_) | ((with_reducible refine below_set ?_ ?_); rotate_left; focus (first | (simp; done) | (simp; omega))))); have hRq := below_step (w := w0) hb (by repeat (first | (with_reducible assumption) | (with_reducible exact Below.refl _ _) | (with_reducible refine Below.drew ?_) | (with_reducible refine below_drewN' ?_ _) | (with_reducible refine below_al ?_) | ((with_reducible refine below_set ?_ ?_); rotate_left; focus (first | (simp; done) | (simp; omega))))); have r0 := below_some hRq _ _ _ G0; have r1 := below_some hRq _ _ _ G1; have r2 := below_some hRq _ _ _ G2; have r3 := below_some hRq _ _ _ G3; have s2 := (hRq.frozen (p := ⟨w.heap.size + 1, 0, none⟩) (by have := HZ0.out; simp; omega)).trans F2; have s3 := (hRq.frozen (p := ⟨w.heap.size + 1 + 1, 0, none⟩) (by have := HZ0.out; simp; omega)).trans F3; have hb1 := hb; have k1 := hb.size; (try simp at k1)) | (go_at_call 70; refine (from_c m (by omega) _).mono ?_; rintro e wp2 ⟨B, cb, rfl, hB', hb⟩; rw [HLB.out]; have hBq := below_step (w := w) hb (by repeat (first | (with_reducible assumption) | (with_reducible exact Below.refl _ _) | (with_reducible refine Below.drew ?_) | (with_reducible refine below_drewN' ?_ _) | (with_reducible refine below_al ?_) | ((with_reducible refine below_set ?_ ?_); rotate_left; focus (first | (simp; done) | (simp; omega))))); have hRq := below_step (w := w0) hb (by repeat (first | (with_reducible assumption) | (with_reducible exact Below.refl _ _) | (with_reducible refine Below.drew ?_) | (with_reducible refine below_drewN' ?_ _) | (with_reducible refine below_al ?_) | ((with_reducible refine below_set ?_ ?_); rotate_left; focus (first | (simp; done) | (simp; omega))))); have r0 := below_some hRq _ _ _ G0; have r1 := below_some hRq _ _ _ G1; have r2 := below_some hRq _ _ _ G2; have r3 := below_some hRq _ _ _ G3; have s2 := (hRq.frozen (p := ⟨w.heap.size + 1, 0, none⟩) (by have := HZ0.out; simp; omega)).trans F2; have s3 := (hRq.frozen (p := ⟨w.heap.size + 1 + 1, 0, none⟩) (by have := HZ0.out; simp; omega)).trans F3; have hb2 := hb; have k2 := hb.size))
  all_goals go_wp2_with fail
  all_goals refine bodyPost_ret (v := .tuple #[.agg #[.slice A la ca], .agg #[.slice B lb cb]]) (by simp [results, Tryd.results72, go_sem, r2, r3]) rfl ?_
  all_goals
    have zz := HZ0.out
    have l1 : w.heap.size + 1 < w0.drew.heap.size := by show _ < w0.heap.size; omega
    have l2 : w.heap.size + 1 + 1 < w0.drew.heap.size := by show _ < w0.heap.size; omega
    refine ⟨A, ca, B, cb, by rw [HLA.out, HLB.out], DBt.to (((hA.below hb2).set (Or.inl (by omega))).set (Or.inl (by omega))) (by simp; omega), DBt.to ((hB'.set (Or.inl (by omega))).set (Or.inl (by omega))) (by simp), ?_⟩
    repeat (first | assumption | exact Below.refl _ _ | (with_reducible refine Below.drew ?_) | (with_reducible refine below_drewN' ?_ _) | (with_reducible refine below_al ?_) | ((with_reducible refine below_set ?_ ?_); rotate_left; focus (first | (simp; done) | (simp; omega))))
end Go.Proofs.YtjcjchapfiokeaaDoor
