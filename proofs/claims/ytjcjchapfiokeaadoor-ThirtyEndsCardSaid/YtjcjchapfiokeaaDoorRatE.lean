/- Fractions of the document: two compared. Conditions: within the bounds. -/
import Derived.Test.YtjcjchapfiokeaaDoorRatD
namespace Go.Proofs.YtjcjchapfiokeaaDoor
open Go.RowKit
set_option linter.unusedVariables false
set_option linter.unusedSimpArgs false
theorem dg_ten {n m : Nat} (h : n ≤ 4611686018427387904) (k : m ≤ 4611686018427387904) : (dg (n * m)).length ≤ 10 := dg_le (by
  have h1 : n * m ≤ 4611686018427387904 * 4611686018427387904 := Nat.mul_le_mul h k
  omega)
set_option maxRecDepth 100000 in
set_option maxHeartbeats 4000000 in
theorem dcmp_c (a b c d : Nat) (ha : a ≤ 4611686018427387904) (hb : b ≤ 4611686018427387904) (hc : c ≤ 4611686018427387904) (hd : d ≤ 4611686018427387904) (w : World) : Calls Tryd.prog 39 #[.agg #[.int .i64 (a : Int), .int .i64 (b : Int)], .agg #[.int .i64 (c : Int), .int .i64 (d : Int)]] w fun e w' => e = .returned (.int .i64 (cmpI (a * d) (c * b))) ∧ Below w.heap.size w w' := by
  obtain ⟨la, hla⟩ : ∃ la, (dg a).length = la := ⟨_, rfl⟩
  obtain ⟨lb, hlb⟩ : ∃ lb, (dg b).length = lb := ⟨_, rfl⟩
  obtain ⟨lc, hlc⟩ : ∃ lc, (dg c).length = lc := ⟨_, rfl⟩
  obtain ⟨ld, hld⟩ : ∃ ld, (dg d).length = ld := ⟨_, rfl⟩
  obtain ⟨lx, hlx⟩ : ∃ lx, (dg (a * d)).length = lx := ⟨_, rfl⟩
  obtain ⟨ly, hly⟩ : ∃ ly, (dg (c * b)).length = ly := ⟨_, rfl⟩
  have ba := dg_five ha; have bb := dg_five hb; have bc := dg_five hc; have bd := dg_five hd
  have bx := dg_ten ha hd; have by' := dg_ten hc hb
  rw [hla] at ba; rw [hlb] at bb; rw [hlc] at bc; rw [hld] at bd; rw [hlx] at bx; rw [hly] at by'
  have HLA := Lib.hid hla; have HLB := Lib.hid hlb; have HLC := Lib.hid hlc; have HLD := Lib.hid hld; have HLX := Lib.hid hlx; have HLY := Lib.hid hly; clear hla hlb hlc hld hlx hly
  have hB : Below w.heap.size w w := Below.refl _ _
  go_enter Tryd.func39, Tryd.ntmps39
  go_wp2_with fail
  refine (big_c a b ha hb _).mono ?_; rintro e w1 ⟨P, pc, Q, qc, rfl, hP, hQ, hb1⟩
  have hz1 := hb1.size; (try simp at hz1); obtain ⟨hc1, hf1⟩ := bcell hb1
  have hB_w_1 := below_step (w := w) hb1 (by repeat (first | (with_reducible assumption) | (with_reducible exact Below.refl _ _) | (with_reducible refine Below.drew ?_) | (with_reducible refine below_drewN' ?_ _) | (with_reducible refine below_al ?_) | ((with_reducible refine below_set ?_ ?_); rotate_left; focus (first | (simp; done) | (simp; omega)))))
  have le_w_w1 : w.heap.size ≤ w1.heap.size := by omega
  try have lt_w_w1 : w.heap.size < w1.heap.size := by omega
  try have lp01_w_w1 : w.heap.size < w1.heap.size + 1 := by omega
  try have lp02_w_w1 : w.heap.size < w1.heap.size + 1 + 1 := by omega
  try have lp03_w_w1 : w.heap.size < w1.heap.size + 1 + 1 + 1 := by omega
  try have lp11_w_w1 : w.heap.size + 1 < w1.heap.size + 1 := by omega
  try have lp12_w_w1 : w.heap.size + 1 < w1.heap.size + 1 + 1 := by omega
  try have lp13_w_w1 : w.heap.size + 1 < w1.heap.size + 1 + 1 + 1 := by omega
  try have lp22_w_w1 : w.heap.size + 1 + 1 < w1.heap.size + 1 + 1 := by omega
  try have lp23_w_w1 : w.heap.size + 1 + 1 < w1.heap.size + 1 + 1 + 1 := by omega
  try have le1_w_w1 : w.heap.size + 1 ≤ w1.heap.size := by omega
  try have lt1_w_w1 : w.heap.size + 1 < w1.heap.size := by omega
  try have le2_w_w1 : w.heap.size + 1 + 1 ≤ w1.heap.size := by omega
  try have lt2_w_w1 : w.heap.size + 1 + 1 < w1.heap.size := by omega
  have s1_w1 : w1.heap.size < w1.heap.size + 1 + 1 := by omega
  have s2_w1 : w1.heap.size < w1.heap.size + 1 + 1 + 1 := by omega
  rw [HLA.out, HLB.out]
  go_wp2_with fail
  refine (big_c c d hc hd _).mono ?_; rintro e w2 ⟨R, rc, S, sc, rfl, hR, hS, hb2⟩
  have hz2 := hb2.size; (try simp at hz2); obtain ⟨hc2, hf2⟩ := bcell hb2
  have hB_w_2 := below_step (w := w) hb2 (by repeat (first | (with_reducible assumption) | (with_reducible exact Below.refl _ _) | (with_reducible refine Below.drew ?_) | (with_reducible refine below_drewN' ?_ _) | (with_reducible refine below_al ?_) | ((with_reducible refine below_set ?_ ?_); rotate_left; focus (first | (simp; done) | (simp; omega)))))
  have hB_w1_2 := below_step (w := w1) hb2 (by repeat (first | (with_reducible assumption) | (with_reducible exact Below.refl _ _) | (with_reducible refine Below.drew ?_) | (with_reducible refine below_drewN' ?_ _) | (with_reducible refine below_al ?_) | ((with_reducible refine below_set ?_ ?_); rotate_left; focus (first | (simp; done) | (simp; omega)))))
  have le_w_w2 : w.heap.size ≤ w2.heap.size := by omega
  try have lt_w_w2 : w.heap.size < w2.heap.size := by omega
  try have lp01_w_w2 : w.heap.size < w2.heap.size + 1 := by omega
  try have lp02_w_w2 : w.heap.size < w2.heap.size + 1 + 1 := by omega
  try have lp03_w_w2 : w.heap.size < w2.heap.size + 1 + 1 + 1 := by omega
  try have lp11_w_w2 : w.heap.size + 1 < w2.heap.size + 1 := by omega
  try have lp12_w_w2 : w.heap.size + 1 < w2.heap.size + 1 + 1 := by omega
  try have lp13_w_w2 : w.heap.size + 1 < w2.heap.size + 1 + 1 + 1 := by omega
  try have lp22_w_w2 : w.heap.size + 1 + 1 < w2.heap.size + 1 + 1 := by omega
  try have lp23_w_w2 : w.heap.size + 1 + 1 < w2.heap.size + 1 + 1 + 1 := by omega
  try have le1_w_w2 : w.heap.size + 1 ≤ w2.heap.size := by omega
  try have lt1_w_w2 : w.heap.size + 1 < w2.heap.size := by omega
  try have le2_w_w2 : w.heap.size + 1 + 1 ≤ w2.heap.size := by omega
  try have lt2_w_w2 : w.heap.size + 1 + 1 < w2.heap.size := by omega
  have le_w1_w2 : w1.heap.size ≤ w2.heap.size := by omega
  try have lt_w1_w2 : w1.heap.size < w2.heap.size := by omega
  try have lp01_w1_w2 : w1.heap.size < w2.heap.size + 1 := by omega
  try have lp02_w1_w2 : w1.heap.size < w2.heap.size + 1 + 1 := by omega
  try have lp03_w1_w2 : w1.heap.size < w2.heap.size + 1 + 1 + 1 := by omega
  try have lp11_w1_w2 : w1.heap.size + 1 < w2.heap.size + 1 := by omega
  try have lp12_w1_w2 : w1.heap.size + 1 < w2.heap.size + 1 + 1 := by omega
  try have lp13_w1_w2 : w1.heap.size + 1 < w2.heap.size + 1 + 1 + 1 := by omega
  try have lp22_w1_w2 : w1.heap.size + 1 + 1 < w2.heap.size + 1 + 1 := by omega
  try have lp23_w1_w2 : w1.heap.size + 1 + 1 < w2.heap.size + 1 + 1 + 1 := by omega
  try have le1_w1_w2 : w1.heap.size + 1 ≤ w2.heap.size := by omega
  try have lt1_w1_w2 : w1.heap.size + 1 < w2.heap.size := by omega
  try have le2_w1_w2 : w1.heap.size + 1 + 1 ≤ w2.heap.size := by omega
  try have lt2_w1_w2 : w1.heap.size + 1 + 1 < w2.heap.size := by omega
  have s1_w2 : w2.heap.size < w2.heap.size + 1 + 1 := by omega
  have s2_w2 : w2.heap.size < w2.heap.size + 1 + 1 + 1 := by omega
  rw [HLC.out, HLD.out]
  go_upto_region 3 with fail
  generalize hW : ((w2.alloc _).alloc _) = w3
  have l1 : Below w.heap.size w w3 := by rw [← hW]; exact below_al (below_al hB_w_2)
  have l2 : Below w1.heap.size w1 w3 := by rw [← hW]; exact below_al (below_al hB_w1_2)
  have l3 : Below w2.heap.size w2 w3 := by rw [← hW]; exact below_al (below_al (Below.refl _ _))
  have HD := Lib.hid (And.intro (hP.below l2) (And.intro (hQ.below l2) (And.intro (hR.below l3) (hS.below l3))))
  have G0 : w3.cell? ⟨w1.heap.size, 0, none⟩ = some (.slice P la pc) := below_some l3 _ _ _ (below_some hb2 _ _ _ (cell_al (cell_nu rfl rfl)))
  have G1 : w3.cell? ⟨w1.heap.size + 1, 0, none⟩ = some (.slice Q lb qc) := below_some l3 _ _ _ (below_some hb2 _ _ _ (cell_nu (by simp) rfl))
  have G2 : w3.cell? ⟨w2.heap.size, 0, none⟩ = some (.slice R lc rc) := by rw [← hW]; exact cell_al (cell_nu rfl rfl)
  have G3 : w3.cell? ⟨w2.heap.size + 1, 0, none⟩ = some (.slice S ld sc) := by rw [← hW]; exact cell_nu (by simp) rfl
  clear hW hc1 hc2 hf1 hf2 hP hQ hR hS
  have cl0 : w3.cell? ⟨w1.heap.size, 0, none⟩ = some (.slice P la pc) := G0
  have cl1 : w3.cell? ⟨w1.heap.size + 1, 0, none⟩ = some (.slice Q lb qc) := G1
  have cl2 : w3.cell? ⟨w2.heap.size, 0, none⟩ = some (.slice R lc rc) := G2
  have cl3 : w3.cell? ⟨w2.heap.size + 1, 0, none⟩ = some (.slice S ld sc) := G3
  have hRefl : Below w3.heap.size w3 w3 := Below.refl _ _
  have HS : Hid (∀ W, Below w3.heap.size w3 W → (fun W' => Below w.heap.size w W' ∧ W'.cell? ⟨w1.heap.size, 0, none⟩ = some (.slice P la pc) ∧ W'.cell? ⟨w1.heap.size + 1, 0, none⟩ = some (.slice Q lb qc) ∧ W'.cell? ⟨w2.heap.size, 0, none⟩ = some (.slice R lc rc) ∧ W'.cell? ⟨w2.heap.size + 1, 0, none⟩ = some (.slice S ld sc)) W) := Lib.hid (fun W h => ⟨below_step (w := w) h l1, below_some h _ _ _ cl0, below_some h _ _ _ cl1, below_some h _ _ _ cl2, below_some h _ _ _ cl3⟩)
  go_region_held3 (fun W' => Below w.heap.size w W' ∧ W'.cell? ⟨w1.heap.size, 0, none⟩ = some (.slice P la pc) ∧ W'.cell? ⟨w1.heap.size + 1, 0, none⟩ = some (.slice Q lb qc) ∧ W'.cell? ⟨w2.heap.size, 0, none⟩ = some (.slice R lc rc) ∧ W'.cell? ⟨w2.heap.size + 1, 0, none⟩ = some (.slice S ld sc)) ((refine HS.out _ ?_; repeat (first | (with_reducible assumption) | (with_reducible exact Below.refl _ _) | (with_reducible refine Below.drew ?_) | (with_reducible refine below_drewN' ?_ _) | (with_reducible refine below_al ?_) | ((with_reducible refine below_set ?_ ?_); rotate_left; focus (first | (simp; done) | (simp; omega)))))) (first | (go_at_call_of 74 (P); refine (bprod_c _ _ _ _ a d _ _ HLA HLD (by omega) (by omega) _ (HD.out.1.below (by repeat (first | (with_reducible assumption) | (with_reducible exact Below.refl _ _) | (with_reducible refine Below.drew ?_) | (with_reducible refine below_drewN' ?_ _) | (with_reducible refine below_al ?_) | ((with_reducible refine below_set ?_ ?_); rotate_left; focus (first | (simp; done) | (simp; omega)))))) (HD.out.2.2.2.below (by repeat (first | (with_reducible assumption) | (with_reducible exact Below.refl _ _) | (with_reducible refine Below.drew ?_) | (with_reducible refine below_drewN' ?_ _) | (with_reducible refine below_al ?_) | ((with_reducible refine below_set ?_ ?_); rotate_left; focus (first | (simp; done) | (simp; omega))))))).mono ?_; rintro e wp ⟨X, xc, rfl, hX, hb_wp⟩; have hz_wp := hb_wp.size; (try simp at hz_wp); have hB_w_wp := below_step (w := w) hb_wp (by repeat (first | (with_reducible assumption) | (with_reducible exact Below.refl _ _) | (with_reducible refine Below.drew ?_) | (with_reducible refine below_drewN' ?_ _) | (with_reducible refine below_al ?_) | ((with_reducible refine below_set ?_ ?_); rotate_left; focus (first | (simp; done) | (simp; omega))))); have hB_w3_wp := below_step (w := w3) hb_wp (by repeat (first | (with_reducible assumption) | (with_reducible exact Below.refl _ _) | (with_reducible refine Below.drew ?_) | (with_reducible refine below_drewN' ?_ _) | (with_reducible refine below_al ?_) | ((with_reducible refine below_set ?_ ?_); rotate_left; focus (first | (simp; done) | (simp; omega))))); have cl0_wp := below_some hB_w3_wp _ _ _ cl0; have cl1_wp := below_some hB_w3_wp _ _ _ cl1; have cl2_wp := below_some hB_w3_wp _ _ _ cl2; have cl3_wp := below_some hB_w3_wp _ _ _ cl3; rw [HLX.out]; have hX := hX.to (Nat.le_refl _)) | (go_at_call_of 74 (R); refine (bprod_c _ _ _ _ c b _ _ HLC HLB (by omega) (by omega) _ (HD.out.2.2.1.below (by repeat (first | (with_reducible assumption) | (with_reducible exact Below.refl _ _) | (with_reducible refine Below.drew ?_) | (with_reducible refine below_drewN' ?_ _) | (with_reducible refine below_al ?_) | ((with_reducible refine below_set ?_ ?_); rotate_left; focus (first | (simp; done) | (simp; omega)))))) (HD.out.2.1.below (by repeat (first | (with_reducible assumption) | (with_reducible exact Below.refl _ _) | (with_reducible refine Below.drew ?_) | (with_reducible refine below_drewN' ?_ _) | (with_reducible refine below_al ?_) | ((with_reducible refine below_set ?_ ?_); rotate_left; focus (first | (simp; done) | (simp; omega))))))).mono ?_; rintro e wq ⟨Y, yc, rfl, hY, hb_wq⟩; have hz_wq := hb_wq.size; (try simp at hz_wq); have hB_w_wq := below_step (w := w) hb_wq (by repeat (first | (with_reducible assumption) | (with_reducible exact Below.refl _ _) | (with_reducible refine Below.drew ?_) | (with_reducible refine below_drewN' ?_ _) | (with_reducible refine below_al ?_) | ((with_reducible refine below_set ?_ ?_); rotate_left; focus (first | (simp; done) | (simp; omega))))); have hB_w3_wq := below_step (w := w3) hb_wq (by repeat (first | (with_reducible assumption) | (with_reducible exact Below.refl _ _) | (with_reducible refine Below.drew ?_) | (with_reducible refine below_drewN' ?_ _) | (with_reducible refine below_al ?_) | ((with_reducible refine below_set ?_ ?_); rotate_left; focus (first | (simp; done) | (simp; omega))))); have hB_wp_wq := below_step (w := wp) hb_wq (by repeat (first | (with_reducible assumption) | (with_reducible exact Below.refl _ _) | (with_reducible refine Below.drew ?_) | (with_reducible refine below_drewN' ?_ _) | (with_reducible refine below_al ?_) | ((with_reducible refine below_set ?_ ?_); rotate_left; focus (first | (simp; done) | (simp; omega))))); have cl0_wq := below_some hB_w3_wq _ _ _ cl0; have cl1_wq := below_some hB_w3_wq _ _ _ cl1; have cl2_wq := below_some hB_w3_wq _ _ _ cl2; have cl3_wq := below_some hB_w3_wq _ _ _ cl3; rw [HLY.out]; have hY := hY.to (Nat.le_refl _)) | (go_at_call 73; refine (bcmp_c _ _ _ _ (a * d) (c * b) _ _ HLX HLY (by omega) (by omega) _ (hX.below (by repeat (first | (with_reducible assumption) | (with_reducible exact Below.refl _ _) | (with_reducible refine Below.drew ?_) | (with_reducible refine below_drewN' ?_ _) | (with_reducible refine below_al ?_) | ((with_reducible refine below_set ?_ ?_); rotate_left; focus (first | (simp; done) | (simp; omega)))))) (hY.below (by repeat (first | (with_reducible assumption) | (with_reducible exact Below.refl _ _) | (with_reducible refine Below.drew ?_) | (with_reducible refine below_drewN' ?_ _) | (with_reducible refine below_al ?_) | ((with_reducible refine below_set ?_ ?_); rotate_left; focus (first | (simp; done) | (simp; omega))))))).mono ?_; rintro e wr ⟨rfl, hb_wr⟩; have hz_wr := hb_wr.size; (try simp at hz_wr); have hB_w_wr := below_step (w := w) hb_wr (by repeat (first | (with_reducible assumption) | (with_reducible exact Below.refl _ _) | (with_reducible refine Below.drew ?_) | (with_reducible refine below_drewN' ?_ _) | (with_reducible refine below_al ?_) | ((with_reducible refine below_set ?_ ?_); rotate_left; focus (first | (simp; done) | (simp; omega))))); have hB_w3_wr := below_step (w := w3) hb_wr (by repeat (first | (with_reducible assumption) | (with_reducible exact Below.refl _ _) | (with_reducible refine Below.drew ?_) | (with_reducible refine below_drewN' ?_ _) | (with_reducible refine below_al ?_) | ((with_reducible refine below_set ?_ ?_); rotate_left; focus (first | (simp; done) | (simp; omega))))); have hB_wp_wr := below_step (w := wp) hb_wr (by repeat (first | (with_reducible assumption) | (with_reducible exact Below.refl _ _) | (with_reducible refine Below.drew ?_) | (with_reducible refine below_drewN' ?_ _) | (with_reducible refine below_al ?_) | ((with_reducible refine below_set ?_ ?_); rotate_left; focus (first | (simp; done) | (simp; omega))))); have hB_wq_wr := below_step (w := wq) hb_wr (by repeat (first | (with_reducible assumption) | (with_reducible exact Below.refl _ _) | (with_reducible refine Below.drew ?_) | (with_reducible refine below_drewN' ?_ _) | (with_reducible refine below_al ?_) | ((with_reducible refine below_set ?_ ?_); rotate_left; focus (first | (simp; done) | (simp; omega))))); have cl0_wr := below_some hB_w3_wr _ _ _ cl0; have cl1_wr := below_some hB_w3_wr _ _ _ cl1; have cl2_wr := below_some hB_w3_wr _ _ _ cl2; have cl3_wr := below_some hB_w3_wr _ _ _ cl3))
  go_wp2_with fail
  go_ret
  exact ⟨rfl, by repeat (first | assumption | exact Below.refl _ _ | (with_reducible refine Below.drew ?_) | (with_reducible refine below_drewN' ?_ _) | (with_reducible refine below_al ?_) | ((with_reducible refine below_set ?_ ?_); rotate_left; focus (first | (simp; done) | (simp; omega))))⟩
theorem dg_sum {a b c d : Nat} (ha : a ≤ 4611686018427387904) (hb : b ≤ 4611686018427387904) (hc : c ≤ 4611686018427387904) (hd : d ≤ 4611686018427387904) : (dg (a * d + c * b)).length ≤ 10 := dg_le (by
  have h1 : a * d ≤ 4611686018427387904 * 4611686018427387904 := Nat.mul_le_mul ha hd
  have h2 : c * b ≤ 4611686018427387904 * 4611686018427387904 := Nat.mul_le_mul hc hb
  omega)
set_option maxRecDepth 100000 in
set_option maxHeartbeats 4000000 in
theorem dadd_c (a b c d : Nat) (ha : a ≤ 4611686018427387904) (hb : b ≤ 4611686018427387904) (hc : c ≤ 4611686018427387904) (hd : d ≤ 4611686018427387904) (hbd : 0 < b * d) (h1 : Hid ((a * d + c * b) / Nat.gcd (a * d + c * b) (b * d) ≤ 4611686018427387904 ∧ (b * d) / Nat.gcd (a * d + c * b) (b * d) ≤ 4611686018427387904)) (w : World) : Calls Tryd.prog 40 #[.agg #[.int .i64 (a : Int), .int .i64 (b : Int)], .agg #[.int .i64 (c : Int), .int .i64 (d : Int)]] w fun e w' => e = .returned (.tuple #[.agg #[.int .i64 (Thi.rN (a * d + c * b) (b * d)), .int .i64 (Thi.rD (a * d + c * b) (b * d))], .int .i64 0]) ∧ Below w.heap.size w w' := by
  obtain ⟨la, hla⟩ : ∃ la, (dg a).length = la := ⟨_, rfl⟩
  obtain ⟨lb, hlb⟩ : ∃ lb, (dg b).length = lb := ⟨_, rfl⟩
  obtain ⟨lc, hlc⟩ : ∃ lc, (dg c).length = lc := ⟨_, rfl⟩
  obtain ⟨ld, hld⟩ : ∃ ld, (dg d).length = ld := ⟨_, rfl⟩
  obtain ⟨lx, hlx⟩ : ∃ lx, (dg (a * d)).length = lx := ⟨_, rfl⟩
  obtain ⟨ly, hly⟩ : ∃ ly, (dg (c * b)).length = ly := ⟨_, rfl⟩
  obtain ⟨lz, hlz⟩ : ∃ lz, (dg (a * d + c * b)).length = lz := ⟨_, rfl⟩
  obtain ⟨lt, hlt⟩ : ∃ lt, (dg (b * d)).length = lt := ⟨_, rfl⟩
  have ba := dg_five ha; have bb := dg_five hb; have bc := dg_five hc; have bd := dg_five hd
  have bx := dg_ten ha hd; have by' := dg_ten hc hb; have bt := dg_ten hb hd; have bz := dg_sum ha hb hc hd
  have HZ := Lib.hid (Nat.le_trans bz (by decide : 10 ≤ 10000))
  rw [hla] at ba; rw [hlb] at bb; rw [hlc] at bc; rw [hld] at bd; rw [hlx] at bx; rw [hly] at by'; rw [hlz] at bz; rw [hlt] at bt
  have HLA := Lib.hid hla; have HLB := Lib.hid hlb; have HLC := Lib.hid hlc; have HLD := Lib.hid hld; have HLX := Lib.hid hlx; have HLY := Lib.hid hly; have HLZ := Lib.hid hlz; have HLT := Lib.hid hlt; clear hla hlb hlc hld hlx hly hlz hlt
  have hB : Below w.heap.size w w := Below.refl _ _
  go_enter Tryd.func40, Tryd.ntmps40
  go_wp2_with fail
  refine (big_c a b ha hb _).mono ?_; rintro e w1 ⟨P, pc, Q, qc, rfl, hP, hQ, hb1⟩
  have hz1 := hb1.size; (try simp at hz1); obtain ⟨hc1, hf1⟩ := bcell hb1
  have hB_w_1 := below_step (w := w) hb1 (by repeat (first | (with_reducible assumption) | (with_reducible exact Below.refl _ _) | (with_reducible refine Below.drew ?_) | (with_reducible refine below_drewN' ?_ _) | (with_reducible refine below_al ?_) | ((with_reducible refine below_set ?_ ?_); rotate_left; focus (first | (simp; done) | (simp; omega)))))
  have le_w_w1 : w.heap.size ≤ w1.heap.size := by omega
  try have lt_w_w1 : w.heap.size < w1.heap.size := by omega
  try have lp01_w_w1 : w.heap.size < w1.heap.size + 1 := by omega
  try have lp02_w_w1 : w.heap.size < w1.heap.size + 1 + 1 := by omega
  try have lp03_w_w1 : w.heap.size < w1.heap.size + 1 + 1 + 1 := by omega
  try have lp11_w_w1 : w.heap.size + 1 < w1.heap.size + 1 := by omega
  try have lp12_w_w1 : w.heap.size + 1 < w1.heap.size + 1 + 1 := by omega
  try have lp13_w_w1 : w.heap.size + 1 < w1.heap.size + 1 + 1 + 1 := by omega
  try have lp22_w_w1 : w.heap.size + 1 + 1 < w1.heap.size + 1 + 1 := by omega
  try have lp23_w_w1 : w.heap.size + 1 + 1 < w1.heap.size + 1 + 1 + 1 := by omega
  try have le1_w_w1 : w.heap.size + 1 ≤ w1.heap.size := by omega
  try have lt1_w_w1 : w.heap.size + 1 < w1.heap.size := by omega
  try have le2_w_w1 : w.heap.size + 1 + 1 ≤ w1.heap.size := by omega
  try have lt2_w_w1 : w.heap.size + 1 + 1 < w1.heap.size := by omega
  have s1_w1 : w1.heap.size < w1.heap.size + 1 + 1 := by omega
  have s2_w1 : w1.heap.size < w1.heap.size + 1 + 1 + 1 := by omega
  rw [HLA.out, HLB.out]
  go_wp2_with fail
  refine (big_c c d hc hd _).mono ?_; rintro e w2 ⟨R, rc, S, sc, rfl, hR, hS, hb2⟩
  have hz2 := hb2.size; (try simp at hz2); obtain ⟨hc2, hf2⟩ := bcell hb2
  have hB_w_2 := below_step (w := w) hb2 (by repeat (first | (with_reducible assumption) | (with_reducible exact Below.refl _ _) | (with_reducible refine Below.drew ?_) | (with_reducible refine below_drewN' ?_ _) | (with_reducible refine below_al ?_) | ((with_reducible refine below_set ?_ ?_); rotate_left; focus (first | (simp; done) | (simp; omega)))))
  have hB_w1_2 := below_step (w := w1) hb2 (by repeat (first | (with_reducible assumption) | (with_reducible exact Below.refl _ _) | (with_reducible refine Below.drew ?_) | (with_reducible refine below_drewN' ?_ _) | (with_reducible refine below_al ?_) | ((with_reducible refine below_set ?_ ?_); rotate_left; focus (first | (simp; done) | (simp; omega)))))
  have le_w_w2 : w.heap.size ≤ w2.heap.size := by omega
  try have lt_w_w2 : w.heap.size < w2.heap.size := by omega
  try have lp01_w_w2 : w.heap.size < w2.heap.size + 1 := by omega
  try have lp02_w_w2 : w.heap.size < w2.heap.size + 1 + 1 := by omega
  try have lp03_w_w2 : w.heap.size < w2.heap.size + 1 + 1 + 1 := by omega
  try have lp11_w_w2 : w.heap.size + 1 < w2.heap.size + 1 := by omega
  try have lp12_w_w2 : w.heap.size + 1 < w2.heap.size + 1 + 1 := by omega
  try have lp13_w_w2 : w.heap.size + 1 < w2.heap.size + 1 + 1 + 1 := by omega
  try have lp22_w_w2 : w.heap.size + 1 + 1 < w2.heap.size + 1 + 1 := by omega
  try have lp23_w_w2 : w.heap.size + 1 + 1 < w2.heap.size + 1 + 1 + 1 := by omega
  try have le1_w_w2 : w.heap.size + 1 ≤ w2.heap.size := by omega
  try have lt1_w_w2 : w.heap.size + 1 < w2.heap.size := by omega
  try have le2_w_w2 : w.heap.size + 1 + 1 ≤ w2.heap.size := by omega
  try have lt2_w_w2 : w.heap.size + 1 + 1 < w2.heap.size := by omega
  have le_w1_w2 : w1.heap.size ≤ w2.heap.size := by omega
  try have lt_w1_w2 : w1.heap.size < w2.heap.size := by omega
  try have lp01_w1_w2 : w1.heap.size < w2.heap.size + 1 := by omega
  try have lp02_w1_w2 : w1.heap.size < w2.heap.size + 1 + 1 := by omega
  try have lp03_w1_w2 : w1.heap.size < w2.heap.size + 1 + 1 + 1 := by omega
  try have lp11_w1_w2 : w1.heap.size + 1 < w2.heap.size + 1 := by omega
  try have lp12_w1_w2 : w1.heap.size + 1 < w2.heap.size + 1 + 1 := by omega
  try have lp13_w1_w2 : w1.heap.size + 1 < w2.heap.size + 1 + 1 + 1 := by omega
  try have lp22_w1_w2 : w1.heap.size + 1 + 1 < w2.heap.size + 1 + 1 := by omega
  try have lp23_w1_w2 : w1.heap.size + 1 + 1 < w2.heap.size + 1 + 1 + 1 := by omega
  try have le1_w1_w2 : w1.heap.size + 1 ≤ w2.heap.size := by omega
  try have lt1_w1_w2 : w1.heap.size + 1 < w2.heap.size := by omega
  try have le2_w1_w2 : w1.heap.size + 1 + 1 ≤ w2.heap.size := by omega
  try have lt2_w1_w2 : w1.heap.size + 1 + 1 < w2.heap.size := by omega
  have s1_w2 : w2.heap.size < w2.heap.size + 1 + 1 := by omega
  have s2_w2 : w2.heap.size < w2.heap.size + 1 + 1 + 1 := by omega
  rw [HLC.out, HLD.out]
  go_upto_region 3 with fail
  generalize hW : ((w2.alloc _).alloc _) = w3
  have l1 : Below w.heap.size w w3 := by rw [← hW]; exact below_al (below_al hB_w_2)
  have l2 : Below w1.heap.size w1 w3 := by rw [← hW]; exact below_al (below_al hB_w1_2)
  have l3 : Below w2.heap.size w2 w3 := by rw [← hW]; exact below_al (below_al (Below.refl _ _))
  have HD := Lib.hid (And.intro (hP.below l2) (And.intro (hQ.below l2) (And.intro (hR.below l3) (hS.below l3))))
  have G0 : w3.cell? ⟨w1.heap.size, 0, none⟩ = some (.slice P la pc) := below_some l3 _ _ _ (below_some hb2 _ _ _ (cell_al (cell_nu rfl rfl)))
  have G1 : w3.cell? ⟨w1.heap.size + 1, 0, none⟩ = some (.slice Q lb qc) := below_some l3 _ _ _ (below_some hb2 _ _ _ (cell_nu (by simp) rfl))
  have G2 : w3.cell? ⟨w2.heap.size, 0, none⟩ = some (.slice R lc rc) := by rw [← hW]; exact cell_al (cell_nu rfl rfl)
  have G3 : w3.cell? ⟨w2.heap.size + 1, 0, none⟩ = some (.slice S ld sc) := by rw [← hW]; exact cell_nu (by simp) rfl
  have G4 : w3.cell? ⟨w.heap.size + 1 + 1, 0, none⟩ = some (.int .i64 0) := below_some l2 _ _ _ (below_some hb1 _ _ _ (cell_nu (by simp) rfl))
  have G5 : w3.cell? ⟨w.heap.size + 1 + 1, 1, none⟩ = some (.int .i64 0) := below_some l2 _ _ _ (below_some hb1 _ _ _ (cell_nu (by simp) rfl))
  have F4 : w3.frozen? ⟨w.heap.size + 1 + 1, 0, none⟩ = false := (l2.frozen (p := ⟨w.heap.size + 1 + 1, 0, none⟩) lt2_w_w1).trans ((hb1.frozen (p := ⟨w.heap.size + 1 + 1, 0, none⟩) (by simp)).trans (blk_free (blk_nu (by simp))))
  have F5 : w3.frozen? ⟨w.heap.size + 1 + 1, 1, none⟩ = false := (l2.frozen (p := ⟨w.heap.size + 1 + 1, 1, none⟩) lt2_w_w1).trans ((hb1.frozen (p := ⟨w.heap.size + 1 + 1, 1, none⟩) (by simp)).trans (blk_free (blk_nu (by simp))))
  clear hW hc1 hc2 hf1 hf2 hP hQ hR hS
  have cl0 : w3.cell? ⟨w1.heap.size, 0, none⟩ = some (.slice P la pc) := G0
  have cl1 : w3.cell? ⟨w1.heap.size + 1, 0, none⟩ = some (.slice Q lb qc) := G1
  have cl2 : w3.cell? ⟨w2.heap.size, 0, none⟩ = some (.slice R lc rc) := G2
  have cl3 : w3.cell? ⟨w2.heap.size + 1, 0, none⟩ = some (.slice S ld sc) := G3
  have hRefl : Below w3.heap.size w3 w3 := Below.refl _ _
  have HS : Hid (∀ W, Below w3.heap.size w3 W → (fun W' => Below w.heap.size w W' ∧ W'.cell? ⟨w1.heap.size, 0, none⟩ = some (.slice P la pc) ∧ W'.cell? ⟨w1.heap.size + 1, 0, none⟩ = some (.slice Q lb qc) ∧ W'.cell? ⟨w2.heap.size, 0, none⟩ = some (.slice R lc rc) ∧ W'.cell? ⟨w2.heap.size + 1, 0, none⟩ = some (.slice S ld sc)) W) := Lib.hid (fun W h => ⟨below_step (w := w) h l1, below_some h _ _ _ cl0, below_some h _ _ _ cl1, below_some h _ _ _ cl2, below_some h _ _ _ cl3⟩)
  have HS2 : Hid (∀ W i u, (fun W' => Below w.heap.size w W' ∧ W'.cell? ⟨w1.heap.size, 0, none⟩ = some (.slice P la pc) ∧ W'.cell? ⟨w1.heap.size + 1, 0, none⟩ = some (.slice Q lb qc) ∧ W'.cell? ⟨w2.heap.size, 0, none⟩ = some (.slice R lc rc) ∧ W'.cell? ⟨w2.heap.size + 1, 0, none⟩ = some (.slice S ld sc)) W → (fun W' => Below w.heap.size w W' ∧ W'.cell? ⟨w1.heap.size, 0, none⟩ = some (.slice P la pc) ∧ W'.cell? ⟨w1.heap.size + 1, 0, none⟩ = some (.slice Q lb qc) ∧ W'.cell? ⟨w2.heap.size, 0, none⟩ = some (.slice R lc rc) ∧ W'.cell? ⟨w2.heap.size + 1, 0, none⟩ = some (.slice S ld sc)) (W.setCell ⟨w.heap.size + 1 + 1, i, none⟩ u)) := Lib.hid (fun W i u h => by obtain ⟨h0, c0, c1, c2, c3⟩ := h; exact ⟨below_set h0 (by simp; try omega), (World.cell?_setCell_other W _ _ _ (fun e => by injection e; omega)).trans c0, (World.cell?_setCell_other W _ _ _ (fun e => by injection e; omega)).trans c1, (World.cell?_setCell_other W _ _ _ (fun e => by injection e; omega)).trans c2, (World.cell?_setCell_other W _ _ _ (fun e => by injection e; omega)).trans c3⟩)
  go_region_held3 (fun W' => Below w.heap.size w W' ∧ W'.cell? ⟨w1.heap.size, 0, none⟩ = some (.slice P la pc) ∧ W'.cell? ⟨w1.heap.size + 1, 0, none⟩ = some (.slice Q lb qc) ∧ W'.cell? ⟨w2.heap.size, 0, none⟩ = some (.slice R lc rc) ∧ W'.cell? ⟨w2.heap.size + 1, 0, none⟩ = some (.slice S ld sc)) ((first | (with_reducible exact HS2.out _ _ _ (HS2.out _ _ _ (HS.out _ (by repeat (first | (with_reducible assumption) | (with_reducible exact Below.refl _ _) | (with_reducible refine Below.drew ?_) | (with_reducible refine below_drewN' ?_ _) | (with_reducible refine below_al ?_) | ((with_reducible refine below_set ?_ ?_); rotate_left; focus (first | (simp; done) | (simp; omega)))))))) | (with_reducible exact HS2.out _ _ _ (HS.out _ (by repeat (first | (with_reducible assumption) | (with_reducible exact Below.refl _ _) | (with_reducible refine Below.drew ?_) | (with_reducible refine below_drewN' ?_ _) | (with_reducible refine below_al ?_) | ((with_reducible refine below_set ?_ ?_); rotate_left; focus (first | (simp; done) | (simp; omega))))))) | (refine HS.out _ ?_; repeat (first | (with_reducible assumption) | (with_reducible exact Below.refl _ _) | (with_reducible refine Below.drew ?_) | (with_reducible refine below_drewN' ?_ _) | (with_reducible refine below_al ?_) | ((with_reducible refine below_set ?_ ?_); rotate_left; focus (first | (simp; done) | (simp; omega))))))) (first | (go_at_call_of 74 (P); refine (bprod_c _ _ _ _ a d _ _ HLA HLD (by omega) (by omega) _ (HD.out.1.below (by repeat (first | (with_reducible assumption) | (with_reducible exact Below.refl _ _) | (with_reducible refine Below.drew ?_) | (with_reducible refine below_drewN' ?_ _) | (with_reducible refine below_al ?_) | ((with_reducible refine below_set ?_ ?_); rotate_left; focus (first | (simp; done) | (simp; omega)))))) (HD.out.2.2.2.below (by repeat (first | (with_reducible assumption) | (with_reducible exact Below.refl _ _) | (with_reducible refine Below.drew ?_) | (with_reducible refine below_drewN' ?_ _) | (with_reducible refine below_al ?_) | ((with_reducible refine below_set ?_ ?_); rotate_left; focus (first | (simp; done) | (simp; omega))))))).mono ?_; rintro e wp ⟨X, xc, rfl, hX, hb_wp⟩; have hz_wp := hb_wp.size; (try simp at hz_wp); have hB_w_wp := below_step (w := w) hb_wp (by repeat (first | (with_reducible assumption) | (with_reducible exact Below.refl _ _) | (with_reducible refine Below.drew ?_) | (with_reducible refine below_drewN' ?_ _) | (with_reducible refine below_al ?_) | ((with_reducible refine below_set ?_ ?_); rotate_left; focus (first | (simp; done) | (simp; omega))))); have hB_w3_wp := below_step (w := w3) hb_wp (by repeat (first | (with_reducible assumption) | (with_reducible exact Below.refl _ _) | (with_reducible refine Below.drew ?_) | (with_reducible refine below_drewN' ?_ _) | (with_reducible refine below_al ?_) | ((with_reducible refine below_set ?_ ?_); rotate_left; focus (first | (simp; done) | (simp; omega))))); have cl0_wp := below_some hB_w3_wp _ _ _ cl0; have cl1_wp := below_some hB_w3_wp _ _ _ cl1; have cl2_wp := below_some hB_w3_wp _ _ _ cl2; have cl3_wp := below_some hB_w3_wp _ _ _ cl3; rw [HLX.out]; have hX := hX.to (Nat.le_refl _)) | (go_at_call_of 74 (R); refine (bprod_c _ _ _ _ c b _ _ HLC HLB (by omega) (by omega) _ (HD.out.2.2.1.below (by repeat (first | (with_reducible assumption) | (with_reducible exact Below.refl _ _) | (with_reducible refine Below.drew ?_) | (with_reducible refine below_drewN' ?_ _) | (with_reducible refine below_al ?_) | ((with_reducible refine below_set ?_ ?_); rotate_left; focus (first | (simp; done) | (simp; omega)))))) (HD.out.2.1.below (by repeat (first | (with_reducible assumption) | (with_reducible exact Below.refl _ _) | (with_reducible refine Below.drew ?_) | (with_reducible refine below_drewN' ?_ _) | (with_reducible refine below_al ?_) | ((with_reducible refine below_set ?_ ?_); rotate_left; focus (first | (simp; done) | (simp; omega))))))).mono ?_; rintro e wq ⟨Y, yc, rfl, hY, hb_wq⟩; have hz_wq := hb_wq.size; (try simp at hz_wq); have hB_w_wq := below_step (w := w) hb_wq (by repeat (first | (with_reducible assumption) | (with_reducible exact Below.refl _ _) | (with_reducible refine Below.drew ?_) | (with_reducible refine below_drewN' ?_ _) | (with_reducible refine below_al ?_) | ((with_reducible refine below_set ?_ ?_); rotate_left; focus (first | (simp; done) | (simp; omega))))); have hB_w3_wq := below_step (w := w3) hb_wq (by repeat (first | (with_reducible assumption) | (with_reducible exact Below.refl _ _) | (with_reducible refine Below.drew ?_) | (with_reducible refine below_drewN' ?_ _) | (with_reducible refine below_al ?_) | ((with_reducible refine below_set ?_ ?_); rotate_left; focus (first | (simp; done) | (simp; omega))))); have hB_wp_wq := below_step (w := wp) hb_wq (by repeat (first | (with_reducible assumption) | (with_reducible exact Below.refl _ _) | (with_reducible refine Below.drew ?_) | (with_reducible refine below_drewN' ?_ _) | (with_reducible refine below_al ?_) | ((with_reducible refine below_set ?_ ?_); rotate_left; focus (first | (simp; done) | (simp; omega))))); have cl0_wq := below_some hB_w3_wq _ _ _ cl0; have cl1_wq := below_some hB_w3_wq _ _ _ cl1; have cl2_wq := below_some hB_w3_wq _ _ _ cl2; have cl3_wq := below_some hB_w3_wq _ _ _ cl3; rw [HLY.out]; have hY := hY.to (Nat.le_refl _)) | (go_at_call 75; refine (bplus_c _ _ _ _ (a * d) (c * b) _ _ HLX HLY (by omega) (by omega) HZ _ (hX.below (by repeat (first | (with_reducible assumption) | (with_reducible exact Below.refl _ _) | (with_reducible refine Below.drew ?_) | (with_reducible refine below_drewN' ?_ _) | (with_reducible refine below_al ?_) | ((with_reducible refine below_set ?_ ?_); rotate_left; focus (first | (simp; done) | (simp; omega)))))) (hY.below (by repeat (first | (with_reducible assumption) | (with_reducible exact Below.refl _ _) | (with_reducible refine Below.drew ?_) | (with_reducible refine below_drewN' ?_ _) | (with_reducible refine below_al ?_) | ((with_reducible refine below_set ?_ ?_); rotate_left; focus (first | (simp; done) | (simp; omega))))))).mono ?_; rintro e ws ⟨Z, zc, rfl, hZ, hb_ws⟩; have hz_ws := hb_ws.size; (try simp at hz_ws); have hB_w_ws := below_step (w := w) hb_ws (by repeat (first | (with_reducible assumption) | (with_reducible exact Below.refl _ _) | (with_reducible refine Below.drew ?_) | (with_reducible refine below_drewN' ?_ _) | (with_reducible refine below_al ?_) | ((with_reducible refine below_set ?_ ?_); rotate_left; focus (first | (simp; done) | (simp; omega))))); have hB_w3_ws := below_step (w := w3) hb_ws (by repeat (first | (with_reducible assumption) | (with_reducible exact Below.refl _ _) | (with_reducible refine Below.drew ?_) | (with_reducible refine below_drewN' ?_ _) | (with_reducible refine below_al ?_) | ((with_reducible refine below_set ?_ ?_); rotate_left; focus (first | (simp; done) | (simp; omega))))); have hB_wp_ws := below_step (w := wp) hb_ws (by repeat (first | (with_reducible assumption) | (with_reducible exact Below.refl _ _) | (with_reducible refine Below.drew ?_) | (with_reducible refine below_drewN' ?_ _) | (with_reducible refine below_al ?_) | ((with_reducible refine below_set ?_ ?_); rotate_left; focus (first | (simp; done) | (simp; omega))))); have hB_wq_ws := below_step (w := wq) hb_ws (by repeat (first | (with_reducible assumption) | (with_reducible exact Below.refl _ _) | (with_reducible refine Below.drew ?_) | (with_reducible refine below_drewN' ?_ _) | (with_reducible refine below_al ?_) | ((with_reducible refine below_set ?_ ?_); rotate_left; focus (first | (simp; done) | (simp; omega))))); have cl0_ws := below_some hB_w3_ws _ _ _ cl0; have cl1_ws := below_some hB_w3_ws _ _ _ cl1; have cl2_ws := below_some hB_w3_ws _ _ _ cl2; have cl3_ws := below_some hB_w3_ws _ _ _ cl3; rw [HLZ.out]; have hZ := hZ.to (Nat.le_refl _)) | (go_at_call 74; refine (bprod_c _ _ _ _ b d _ _ HLB HLD (by omega) (by omega) _ (HD.out.2.1.below (by repeat (first | (with_reducible assumption) | (with_reducible exact Below.refl _ _) | (with_reducible refine Below.drew ?_) | (with_reducible refine below_drewN' ?_ _) | (with_reducible refine below_al ?_) | ((with_reducible refine below_set ?_ ?_); rotate_left; focus (first | (simp; done) | (simp; omega)))))) (HD.out.2.2.2.below (by repeat (first | (with_reducible assumption) | (with_reducible exact Below.refl _ _) | (with_reducible refine Below.drew ?_) | (with_reducible refine below_drewN' ?_ _) | (with_reducible refine below_al ?_) | ((with_reducible refine below_set ?_ ?_); rotate_left; focus (first | (simp; done) | (simp; omega))))))).mono ?_; rintro e wt ⟨T, tc, rfl, hT, hb_wt⟩; have hz_wt := hb_wt.size; (try simp at hz_wt); have hB_w_wt := below_step (w := w) hb_wt (by repeat (first | (with_reducible assumption) | (with_reducible exact Below.refl _ _) | (with_reducible refine Below.drew ?_) | (with_reducible refine below_drewN' ?_ _) | (with_reducible refine below_al ?_) | ((with_reducible refine below_set ?_ ?_); rotate_left; focus (first | (simp; done) | (simp; omega))))); have hB_w3_wt := below_step (w := w3) hb_wt (by repeat (first | (with_reducible assumption) | (with_reducible exact Below.refl _ _) | (with_reducible refine Below.drew ?_) | (with_reducible refine below_drewN' ?_ _) | (with_reducible refine below_al ?_) | ((with_reducible refine below_set ?_ ?_); rotate_left; focus (first | (simp; done) | (simp; omega))))); have hB_wp_wt := below_step (w := wp) hb_wt (by repeat (first | (with_reducible assumption) | (with_reducible exact Below.refl _ _) | (with_reducible refine Below.drew ?_) | (with_reducible refine below_drewN' ?_ _) | (with_reducible refine below_al ?_) | ((with_reducible refine below_set ?_ ?_); rotate_left; focus (first | (simp; done) | (simp; omega))))); have hB_wq_wt := below_step (w := wq) hb_wt (by repeat (first | (with_reducible assumption) | (with_reducible exact Below.refl _ _) | (with_reducible refine Below.drew ?_) | (with_reducible refine below_drewN' ?_ _) | (with_reducible refine below_al ?_) | ((with_reducible refine below_set ?_ ?_); rotate_left; focus (first | (simp; done) | (simp; omega))))); have hB_ws_wt := below_step (w := ws) hb_wt (by repeat (first | (with_reducible assumption) | (with_reducible exact Below.refl _ _) | (with_reducible refine Below.drew ?_) | (with_reducible refine below_drewN' ?_ _) | (with_reducible refine below_al ?_) | ((with_reducible refine below_set ?_ ?_); rotate_left; focus (first | (simp; done) | (simp; omega))))); have cl0_wt := below_some hB_w3_wt _ _ _ cl0; have cl1_wt := below_some hB_w3_wt _ _ _ cl1; have cl2_wt := below_some hB_w3_wt _ _ _ cl2; have cl3_wt := below_some hB_w3_wt _ _ _ cl3; rw [HLT.out]; have hT := hT.to (Nat.le_refl _)) | (go_at_call 69; refine (made_c _ _ _ _ (a * d + c * b) (b * d) _ _ HLZ HLT (by omega) (by omega) hbd h1.out.1 h1.out.2 _ (hZ.below (by repeat (first | (with_reducible assumption) | (with_reducible exact Below.refl _ _) | (with_reducible refine Below.drew ?_) | (with_reducible refine below_drewN' ?_ _) | (with_reducible refine below_al ?_) | ((with_reducible refine below_set ?_ ?_); rotate_left; focus (first | (simp; done) | (simp; omega)))))) (hT.below (by repeat (first | (with_reducible assumption) | (with_reducible exact Below.refl _ _) | (with_reducible refine Below.drew ?_) | (with_reducible refine below_drewN' ?_ _) | (with_reducible refine below_al ?_) | ((with_reducible refine below_set ?_ ?_); rotate_left; focus (first | (simp; done) | (simp; omega))))))).mono ?_; rintro e wr ⟨rfl, hb_wr⟩; have hz_wr := hb_wr.size; (try simp at hz_wr); have hB_w_wr := below_step (w := w) hb_wr (by repeat (first | (with_reducible assumption) | (with_reducible exact Below.refl _ _) | (with_reducible refine Below.drew ?_) | (with_reducible refine below_drewN' ?_ _) | (with_reducible refine below_al ?_) | ((with_reducible refine below_set ?_ ?_); rotate_left; focus (first | (simp; done) | (simp; omega))))); have hB_w3_wr := below_step (w := w3) hb_wr (by repeat (first | (with_reducible assumption) | (with_reducible exact Below.refl _ _) | (with_reducible refine Below.drew ?_) | (with_reducible refine below_drewN' ?_ _) | (with_reducible refine below_al ?_) | ((with_reducible refine below_set ?_ ?_); rotate_left; focus (first | (simp; done) | (simp; omega))))); have hB_wp_wr := below_step (w := wp) hb_wr (by repeat (first | (with_reducible assumption) | (with_reducible exact Below.refl _ _) | (with_reducible refine Below.drew ?_) | (with_reducible refine below_drewN' ?_ _) | (with_reducible refine below_al ?_) | ((with_reducible refine below_set ?_ ?_); rotate_left; focus (first | (simp; done) | (simp; omega))))); have hB_wq_wr := below_step (w := wq) hb_wr (by repeat (first | (with_reducible assumption) | (with_reducible exact Below.refl _ _) | (with_reducible refine Below.drew ?_) | (with_reducible refine below_drewN' ?_ _) | (with_reducible refine below_al ?_) | ((with_reducible refine below_set ?_ ?_); rotate_left; focus (first | (simp; done) | (simp; omega))))); have hB_ws_wr := below_step (w := ws) hb_wr (by repeat (first | (with_reducible assumption) | (with_reducible exact Below.refl _ _) | (with_reducible refine Below.drew ?_) | (with_reducible refine below_drewN' ?_ _) | (with_reducible refine below_al ?_) | ((with_reducible refine below_set ?_ ?_); rotate_left; focus (first | (simp; done) | (simp; omega))))); have hB_wt_wr := below_step (w := wt) hb_wr (by repeat (first | (with_reducible assumption) | (with_reducible exact Below.refl _ _) | (with_reducible refine Below.drew ?_) | (with_reducible refine below_drewN' ?_ _) | (with_reducible refine below_al ?_) | ((with_reducible refine below_set ?_ ?_); rotate_left; focus (first | (simp; done) | (simp; omega))))); have cl0_wr := below_some hB_w3_wr _ _ _ cl0; have cl1_wr := below_some hB_w3_wr _ _ _ cl1; have cl2_wr := below_some hB_w3_wr _ _ _ cl2; have cl3_wr := below_some hB_w3_wr _ _ _ cl3; have g4 := below_some hB_w3_wr _ _ _ G4; have g5 := below_some hB_w3_wr _ _ _ G5; have f4 := (hB_w3_wr.frozen (p := ⟨w.heap.size + 1 + 1, 0, none⟩) (World.block_lt_of_cell? _ _ G4)).trans F4; have f5 := (hB_w3_wr.frozen (p := ⟨w.heap.size + 1 + 1, 1, none⟩) (World.block_lt_of_cell? _ _ G5)).trans F5))
  all_goals go_wp2_with fail
  all_goals refine bodyPost_ret (v := .tuple #[.agg #[.int .i64 (Thi.rN (a * d + c * b) (b * d)), .int .i64 (Thi.rD (a * d + c * b) (b * d))], .int .i64 0]) (by simp [results, Tryd.results40, go_sem, g4, g5]) rfl ⟨rfl, ?_⟩
  all_goals repeat (first | assumption | exact Below.refl _ _ | (with_reducible refine Below.drew ?_) | (with_reducible refine below_drewN' ?_ _) | (with_reducible refine below_al ?_) | ((with_reducible refine below_set ?_ ?_); rotate_left; focus (first | (simp; done) | (simp; omega))))
end Go.Proofs.YtjcjchapfiokeaaDoor
