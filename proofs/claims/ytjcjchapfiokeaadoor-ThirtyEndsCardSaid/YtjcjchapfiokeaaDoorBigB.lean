/- Numbers of any size, the document's: two compared. Conditions: sizes far below the machine's. -/
import Derived.Test.YtjcjchapfiokeaaDoorBigA
namespace Go.Proofs.YtjcjchapfiokeaaDoor
open Go.RowKit
set_option linter.unusedVariables false
set_option linter.unusedSimpArgs false
def cmpI (n m : Nat) : Int := if n < m then -1 else if m < n then 1 else 0
theorem cmpI_lt {n m : Nat} (h : n < m) : cmpI n m = -1 := if_pos h
theorem cmpI_gt {n m : Nat} (h : m < n) : cmpI n m = 1 := by unfold cmpI; rw [if_neg (by omega), if_pos h]
theorem cmpI_eq {n : Nat} : cmpI n n = 0 := by unfold cmpI; rw [if_neg (by omega), if_neg (by omega)]
theorem part_step (n k : Nat) : ((n / 10000 ^ k : Nat) : Int) = 10000 * ((n / 10000 ^ (k + 1) : Nat) : Int) + pt n k := by
  rw [div_step]; unfold pt; omega
theorem part_lt {n m k : Nat} (h : n / 10000 ^ (k + 1) = m / 10000 ^ (k + 1)) (hx : pt n k < pt m k) : n < m := by
  have h1 := part_step n k; have h2 := part_step m k
  rw [h] at h1
  exact Nat.lt_of_div_lt_div (show n / 10000 ^ k < m / 10000 ^ k by omega)
theorem part_eq {n m k : Nat} (h : n / 10000 ^ (k + 1) = m / 10000 ^ (k + 1)) (hx : pt n k = pt m k) : n / 10000 ^ k = m / 10000 ^ k := by
  have h1 := part_step n k; have h2 := part_step m k
  rw [h] at h1
  omega
set_option maxRecDepth 100000 in
set_option maxHeartbeats 8000000 in
theorem bcmp_lo (A B : Option Addr) (ca cb n m la lb : Nat) (hla : Hid ((dg n).length = la)) (hlb : Hid ((dg m).length = lb)) (ba : la ≤ 100000) (bb : lb ≤ 100000) (hl : ¬ la < lb) (w : World) (ha : DIn w A (dg n)) (hb : DIn w B (dg m)) : Calls Tryd.prog 73 #[.agg #[.slice A la ca], .agg #[.slice B lb cb]] w fun e w' => e = .returned (.int .i64 (cmpI n m)) ∧ Below w.heap.size w w' := by
  have hlz : ¬ (la : Int) < (lb : Int) := by omega
  have hld : decide ((la : Int) < (lb : Int)) = false := decide_eq_false hlz
  have s0 : IntKind.i64.wrap ((la : Int) - 1) = (la : Int) - 1 := IntWalk.i64_in _ (by omega)
  obtain ⟨rv, hrv⟩ : ∃ rv, cmpI n m = rv := ⟨_, rfl⟩
  rw [hrv]
  have HRV := Lib.hid hrv; clear hrv
  go_enter Tryd.func73, Tryd.ntmps73
  go_wp2_with fail
  generalize hW : ((w.alloc _).alloc _) = w0
  have hB0 : Below w.heap.size w w0 := by rw [← hW]; exact below_al (below_al (Below.refl _ _))
  have ga : w0.cell? ⟨w.heap.size, 0, none⟩ = some (.slice A la ca) := by rw [← hW]; exact cell_al (cell_nu rfl rfl)
  have gb : w0.cell? ⟨w.heap.size + 1, 0, none⟩ = some (.slice B lb cb) := by rw [← hW]; exact cell_nu (by simp) rfl
  have HA := Lib.hid (ha.below hB0); have HB := Lib.hid (hb.below hB0); have GA := Lib.hid ga; have GB := Lib.hid gb
  clear hW ha hb ga gb
  go_loopw [6] (fun x wr => ∃ k : Nat, k ≤ 100000 ∧ x = .int .i64 ((k : Int) - 1) ∧ Hid (n / 10000 ^ k = m / 10000 ^ k) ∧ Hid (Below w0.heap.size w0 wr)) (fun x _ => (intOf x + 1).toNat)
  case atStart => exact ⟨la, by omega, rfl, Lib.hid (by rw [dg_high (by rw [hla.out]; omega), dg_high (by rw [hlb.out]; omega)]), Lib.hid (Below.refl _ _)⟩
  case round =>
    obtain ⟨k, hk, rfl, hE, hBr⟩ := hrel
    cases k with
    | zero =>
      have HV : Hid (rv = 0) := Lib.hid (by have h := hE.out; simp at h; rw [← HRV.out, h]; exact cmpI_eq)
      go_wp2_with fail
      go_ret
      exact ⟨by rw [HV.out]; rfl, below_step (w := w) hBr.out hB0⟩
    | succ k =>
      have e0 : ((k + 1 : Nat) : Int) - 1 = (k : Int) := by omega
      rw [e0]
      have kz : decide ((0 : Int) ≤ (k : Int)) = true := decide_eq_true (by omega)
      have s1 : IntKind.i64.wrap ((k : Int) - 1) = (k : Int) - 1 := IntWalk.i64_in _ (by omega)
      have HX : ∃ x, pt n k = x := ⟨_, rfl⟩
      have HY : ∃ y, pt m k = y := ⟨_, rfl⟩
      obtain ⟨x, hx⟩ := HX
      obtain ⟨y, hy⟩ := HY
      have HX := Lib.hid hx; have HY := Lib.hid hy; clear hx hy
      have g1 := below_some hBr.out _ _ _ GA.out
      have g2 := below_some hBr.out _ _ _ GB.out
      go_wp2_with fail
      refine (bpart_c A ca n k la x hla HX (by omega) _ (HA.out.below hBr.out)).mono ?_; rintro e w1 ⟨rfl, hb1⟩
      have h1 := Lib.hid (hBr.out.trans (hb1.mono hBr.out.size))
      clear g1 g2
      have g1 := below_some h1.out _ _ _ GA.out
      have g2 := below_some h1.out _ _ _ GB.out
      go_wp2_with fail
      refine (bpart_c B cb m k lb y hlb HY (by omega) _ (HB.out.below h1.out)).mono ?_; rintro e w2 ⟨rfl, hb2⟩
      have h2 := Lib.hid (h1.out.trans (hb2.mono h1.out.size))
      clear g1 g2 hb1 hb2 h1
      by_cases c1 : x < y
      · have d1 := decide_eq_true c1
        have HV : Hid (rv = -1) := Lib.hid (by rw [← HRV.out]; exact cmpI_lt (part_lt hE.out (by rw [HX.out, HY.out]; exact c1)))
        go_wp2_with fail
        go_ret
        exact ⟨by rw [HV.out]; rfl, below_step (w := w) h2.out hB0⟩
      · have d1 := decide_eq_false c1
        by_cases c2 : y < x
        · have d2 := decide_eq_true c2
          have HV : Hid (rv = 1) := Lib.hid (by rw [← HRV.out]; exact cmpI_gt (part_lt hE.out.symm (by rw [HX.out, HY.out]; exact c2)))
          go_wp2_with fail
          go_ret
          exact ⟨by rw [HV.out]; rfl, below_step (w := w) h2.out hB0⟩
        · have d2 := decide_eq_false c2
          have nE : Hid (n / 10000 ^ k = m / 10000 ^ k) := Lib.hid (part_eq hE.out (by rw [HX.out, HY.out]; omega))
          go_wp2_with fail
          go_roundw
          case rel => exact ⟨k, by omega, rfl, nE, h2⟩
          case measure => simp [intOf] <;> omega
set_option maxRecDepth 100000 in
set_option maxHeartbeats 8000000 in
theorem bcmp_hi (A B : Option Addr) (ca cb n m la lb : Nat) (hla : Hid ((dg n).length = la)) (hlb : Hid ((dg m).length = lb)) (ba : la ≤ 100000) (bb : lb ≤ 100000) (hl : la < lb) (w : World) (ha : DIn w A (dg n)) (hb : DIn w B (dg m)) : Calls Tryd.prog 73 #[.agg #[.slice A la ca], .agg #[.slice B lb cb]] w fun e w' => e = .returned (.int .i64 (cmpI n m)) ∧ Below w.heap.size w w' := by
  have hlz :  (la : Int) < (lb : Int) := by omega
  have hld : decide ((la : Int) < (lb : Int)) = true := decide_eq_true hlz
  have s0 : IntKind.i64.wrap ((lb : Int) - 1) = (lb : Int) - 1 := IntWalk.i64_in _ (by omega)
  obtain ⟨rv, hrv⟩ : ∃ rv, cmpI n m = rv := ⟨_, rfl⟩
  rw [hrv]
  have HRV := Lib.hid hrv; clear hrv
  go_enter Tryd.func73, Tryd.ntmps73
  go_wp2_with fail
  generalize hW : ((w.alloc _).alloc _) = w0
  have hB0 : Below w.heap.size w w0 := by rw [← hW]; exact below_al (below_al (Below.refl _ _))
  have ga : w0.cell? ⟨w.heap.size, 0, none⟩ = some (.slice A la ca) := by rw [← hW]; exact cell_al (cell_nu rfl rfl)
  have gb : w0.cell? ⟨w.heap.size + 1, 0, none⟩ = some (.slice B lb cb) := by rw [← hW]; exact cell_nu (by simp) rfl
  have HA := Lib.hid (ha.below hB0); have HB := Lib.hid (hb.below hB0); have GA := Lib.hid ga; have GB := Lib.hid gb
  clear hW ha hb ga gb
  go_loopw [6] (fun x wr => ∃ k : Nat, k ≤ 100000 ∧ x = .int .i64 ((k : Int) - 1) ∧ Hid (n / 10000 ^ k = m / 10000 ^ k) ∧ Hid (Below w0.heap.size w0 wr)) (fun x _ => (intOf x + 1).toNat)
  case atStart => exact ⟨lb, by omega, rfl, Lib.hid (by rw [dg_high (by rw [hla.out]; omega), dg_high (by rw [hlb.out]; omega)]), Lib.hid (Below.refl _ _)⟩
  case round =>
    obtain ⟨k, hk, rfl, hE, hBr⟩ := hrel
    cases k with
    | zero =>
      have HV : Hid (rv = 0) := Lib.hid (by have h := hE.out; simp at h; rw [← HRV.out, h]; exact cmpI_eq)
      go_wp2_with fail
      go_ret
      exact ⟨by rw [HV.out]; rfl, below_step (w := w) hBr.out hB0⟩
    | succ k =>
      have e0 : ((k + 1 : Nat) : Int) - 1 = (k : Int) := by omega
      rw [e0]
      have kz : decide ((0 : Int) ≤ (k : Int)) = true := decide_eq_true (by omega)
      have s1 : IntKind.i64.wrap ((k : Int) - 1) = (k : Int) - 1 := IntWalk.i64_in _ (by omega)
      have HX : ∃ x, pt n k = x := ⟨_, rfl⟩
      have HY : ∃ y, pt m k = y := ⟨_, rfl⟩
      obtain ⟨x, hx⟩ := HX
      obtain ⟨y, hy⟩ := HY
      have HX := Lib.hid hx; have HY := Lib.hid hy; clear hx hy
      have g1 := below_some hBr.out _ _ _ GA.out
      have g2 := below_some hBr.out _ _ _ GB.out
      go_wp2_with fail
      refine (bpart_c A ca n k la x hla HX (by omega) _ (HA.out.below hBr.out)).mono ?_; rintro e w1 ⟨rfl, hb1⟩
      have h1 := Lib.hid (hBr.out.trans (hb1.mono hBr.out.size))
      clear g1 g2
      have g1 := below_some h1.out _ _ _ GA.out
      have g2 := below_some h1.out _ _ _ GB.out
      go_wp2_with fail
      refine (bpart_c B cb m k lb y hlb HY (by omega) _ (HB.out.below h1.out)).mono ?_; rintro e w2 ⟨rfl, hb2⟩
      have h2 := Lib.hid (h1.out.trans (hb2.mono h1.out.size))
      clear g1 g2 hb1 hb2 h1
      by_cases c1 : x < y
      · have d1 := decide_eq_true c1
        have HV : Hid (rv = -1) := Lib.hid (by rw [← HRV.out]; exact cmpI_lt (part_lt hE.out (by rw [HX.out, HY.out]; exact c1)))
        go_wp2_with fail
        go_ret
        exact ⟨by rw [HV.out]; rfl, below_step (w := w) h2.out hB0⟩
      · have d1 := decide_eq_false c1
        by_cases c2 : y < x
        · have d2 := decide_eq_true c2
          have HV : Hid (rv = 1) := Lib.hid (by rw [← HRV.out]; exact cmpI_gt (part_lt hE.out.symm (by rw [HX.out, HY.out]; exact c2)))
          go_wp2_with fail
          go_ret
          exact ⟨by rw [HV.out]; rfl, below_step (w := w) h2.out hB0⟩
        · have d2 := decide_eq_false c2
          have nE : Hid (n / 10000 ^ k = m / 10000 ^ k) := Lib.hid (part_eq hE.out (by rw [HX.out, HY.out]; omega))
          go_wp2_with fail
          go_roundw
          case rel => exact ⟨k, by omega, rfl, nE, h2⟩
          case measure => simp [intOf] <;> omega
theorem bcmp_c (A B : Option Addr) (ca cb n m la lb : Nat) (hla : Hid ((dg n).length = la)) (hlb : Hid ((dg m).length = lb)) (ba : la ≤ 100000) (bb : lb ≤ 100000) (w : World) (ha : DIn w A (dg n)) (hb : DIn w B (dg m)) : Calls Tryd.prog 73 #[.agg #[.slice A la ca], .agg #[.slice B lb cb]] w fun e w' => e = .returned (.int .i64 (cmpI n m)) ∧ Below w.heap.size w w' := by
  by_cases hl : la < lb
  · exact bcmp_hi A B ca cb n m la lb hla hlb ba bb hl w ha hb
  · exact bcmp_lo A B ca cb n m la lb hla hlb ba bb hl w ha hb
end Go.Proofs.YtjcjchapfiokeaaDoor
