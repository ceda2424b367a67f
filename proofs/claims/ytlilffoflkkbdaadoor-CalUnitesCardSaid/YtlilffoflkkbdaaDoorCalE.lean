/- The contract of which calendars may be, the document's. Conditions: none. -/
import Derived.Test.YtlilffoflkkbdaaDoorCalD
import Derived.IntWalk
import Derived.Test.YtlilffoflkkbdaaDoorRulB
namespace Go.Proofs.YtlilffoflkkbdaaDoor
open Go.RowKit
set_option linter.unusedVariables false
set_option maxRecDepth 100000 in
set_option maxHeartbeats 8000000 in
theorem rcm_00 (c : CalP) (V : Bool) (hV : Hid (c.may = V)) (w : World) (hDs : Hid (c.ds = [])) (hR : Hid (c.rs = [])) : Calls Tryd.prog 19 #[.agg #[.bool c.o0, .bool c.o1, .bool c.o2, .bool c.o3, .bool c.o4, .bool c.o5, .bool c.o6, .slice c.A c.rs.length c.cR, .slice c.D c.ds.length c.cD]] w fun e w' => e = .returned (.bool V) ∧ Below w.heap.size w w' := by
  go_enter Tryd.func19, Tryd.ntmps19
  go_wp2_with fail
  go_loop [3, 4] (fun o i => ∃ k : Nat, k ≤ 7 ∧ i = .int .i64 k ∧ o = .bool (opn c k)) (fun _ i => 7 - (intOf i).toNat)
  case atStart => exact ⟨0, by omega, rfl, rfl⟩
  case round =>
    obtain ⟨k, hk, rfl, rfl⟩ := hrel
    by_cases hlt : k < 7
    · have hltz : (k : Int) < 7 := by omega
      have hix := off_at c k hlt
      cases ho : opn c k
      · have HO := Lib.hid ho; clear ho
        go_wp2_with fail
        go_round
        case rel => exact ⟨k + 1, by omega, by go_num, by rw [opn, HO.out]; rfl⟩
        case measure => simp [intOf]; omega
      · have HO := Lib.hid ho; clear ho
        go_wp2_with fail
        go_round
        case rel => exact ⟨k + 1, by omega, by go_num, by rw [opn, HO.out]; rfl⟩
        case measure => simp [intOf]; omega
    · obtain rfl : k = 7 := by omega
      rw [opn7]
      cases ho : c.open_
      · have HV := Lib.hid (CalP.may_no1 ho); clear ho
        go_wp2_with fail
        go_ret
        exact ⟨ret_bool (by rw [← hV.out, HV.out]), by repeat (first | assumption | exact Below.refl _ _ | (with_reducible refine Below.drew ?_) | (with_reducible refine below_drewN' ?_ _) | (with_reducible refine below_al ?_) | ((with_reducible refine below_set ?_ ?_); rotate_left; focus (first | (simp; done) | (simp; omega))))⟩
      · have H1 := Lib.hid ho; clear ho
        by_cases n1 : c.rs.length ≤ 100
        · have n1z : (c.rs.length : Int) ≤ 100 := by omega
          by_cases n2 : c.ds.length ≤ 1000
          · have n2z : (c.ds.length : Int) ≤ 1000 := by omega
            go_wp2_with fail
            have HB0 : Hid (Below (w.alloc (.cells #[.bool c.o0, .bool c.o1, .bool c.o2, .bool c.o3, .bool c.o4, .bool c.o5, .bool c.o6, .slice c.A c.rs.length c.cR, .slice c.D c.ds.length c.cD] 26)).heap.size (w.alloc (.cells #[.bool c.o0, .bool c.o1, .bool c.o2, .bool c.o3, .bool c.o4, .bool c.o5, .bool c.o6, .slice c.A c.rs.length c.cR, .slice c.D c.ds.length c.cD] 26)) (w.alloc (.cells #[.bool c.o0, .bool c.o1, .bool c.o2, .bool c.o3, .bool c.o4, .bool c.o5, .bool c.o6, .slice c.A c.rs.length c.cR, .slice c.D c.ds.length c.cD] 26))) := Lib.hid (Below.refl _ _)
            go_loopw [5] (fun i wr => ∃ k : Nat, k ≤ c.rs.length ∧ i = .int .i64 k ∧ Hid (Below (w.alloc (.cells #[.bool c.o0, .bool c.o1, .bool c.o2, .bool c.o3, .bool c.o4, .bool c.o5, .bool c.o6, .slice c.A c.rs.length c.cR, .slice c.D c.ds.length c.cD] 26)).heap.size (w.alloc (.cells #[.bool c.o0, .bool c.o1, .bool c.o2, .bool c.o3, .bool c.o4, .bool c.o5, .bool c.o6, .slice c.A c.rs.length c.cR, .slice c.D c.ds.length c.cD] 26)) wr) ∧ Hid (∀ j, j < k → (c.rs[j]!).may = true)) (fun i _ => c.rs.length - (intOf i).toNat)
            case atStart => exact ⟨0, Nat.zero_le _, rfl, HB0, fun j hj => absurd hj (Nat.not_lt_zero _)⟩
            case round =>
              obtain ⟨k, hkk, rfl, hbr, A⟩ := hrel
              clear HB0
              have hke : k = c.rs.length := by have := hR.out; rw [this] at hkk ⊢; simp at hkk ⊢; exact hkk
              subst hke
              have HR := Lib.hid A.out; clear A
              obtain ⟨hcr0, hfr0⟩ := bcell hbr.out
              have hzr0 := hbr.out.size; (try simp at hzr0)
              go_wp2_with fail
              clear hcr0 hfr0
              obtain ⟨wo, rfl⟩ : ∃ wo : World, wo = wr := ⟨_, rfl⟩
              obtain ⟨hcr, hfr⟩ := bcell hbr.out
              have hzr := hbr.out.size; (try simp at hzr)
              have hBr : Below w.heap.size w wo := (below_one w _).trans (hbr.out.mono (by simp))
              go_loopw [7] (fun i w3 => ∃ k : Nat, k ≤ c.ds.length ∧ i = .int .i64 k ∧ Hid (∀ j, j < k → dayB (c.ds.getD j 0) = true) ∧ Hid (∀ j, 0 < j → j < k → c.ds.getD (j - 1) 0 < c.ds.getD j 0) ∧ ∃ q : Nat, w3 = wo.drewN q) (fun i _ => c.ds.length - (intOf i).toNat)
              case atStart => exact ⟨0, Nat.zero_le _, rfl, fun j hj => absurd hj (Nat.not_lt_zero _), fun j _ hj => absurd hj (Nat.not_lt_zero _), 0, rfl⟩
              case round =>
                obtain ⟨k, hkk, rfl, A1, A2, q, rfl⟩ := hrel
                have hke : k = c.ds.length := by have := hDs.out; rw [this] at hkk ⊢; simp at hkk ⊢; exact hkk
                subst hke
                have HV : Hid (c.may = true) := Lib.hid (CalP.may_yes H1.out (by omega) (by omega) HR.out A1.out A2.out)
                go_wp2_with fail
                go_ret
                exact ⟨ret_bool (by rw [← hV.out, HV.out]), by repeat (first | assumption | exact Below.refl _ _ | (with_reducible refine Below.drew ?_) | (with_reducible refine below_drewN' ?_ _) | (with_reducible refine below_al ?_) | ((with_reducible refine below_set ?_ ?_); rotate_left; focus (first | (simp; done) | (simp; omega))))⟩
          · have HV := Lib.hid (CalP.may_no3 n2)
            have n2z : (1000 : Int) < (c.ds.length : Int) := by omega
            go_wp2_with fail
            go_ret
            exact ⟨ret_bool (by rw [← hV.out, HV.out]), by repeat (first | assumption | exact Below.refl _ _ | (with_reducible refine Below.drew ?_) | (with_reducible refine below_drewN' ?_ _) | (with_reducible refine below_al ?_) | ((with_reducible refine below_set ?_ ?_); rotate_left; focus (first | (simp; done) | (simp; omega))))⟩
        · have HV := Lib.hid (CalP.may_no2 n1)
          have n1z : (100 : Int) < (c.rs.length : Int) := by omega
          go_wp2_with fail
          go_ret
          exact ⟨ret_bool (by rw [← hV.out, HV.out]), by repeat (first | assumption | exact Below.refl _ _ | (with_reducible refine Below.drew ?_) | (with_reducible refine below_drewN' ?_ _) | (with_reducible refine below_al ?_) | ((with_reducible refine below_set ?_ ?_); rotate_left; focus (first | (simp; done) | (simp; omega))))⟩
set_option maxRecDepth 100000 in
set_option maxHeartbeats 8000000 in
theorem rcm_01 (c : CalP) (V : Bool) (hV : Hid (c.may = V)) (w : World) (hDs : Hid (c.ds = [])) (rb ro : Nat) (hA : Hid (c.A = some ⟨rb, ro, none⟩)) (hrb : rb < w.heap.size) (hrc : ∀ j, j < c.rs.length → ∀ i v, (c.rs[j]!.enc)[i]? = some v → w.cell? ⟨rb, ro + j * 8 + i, none⟩ = some v) : Calls Tryd.prog 19 #[.agg #[.bool c.o0, .bool c.o1, .bool c.o2, .bool c.o3, .bool c.o4, .bool c.o5, .bool c.o6, .slice c.A c.rs.length c.cR, .slice c.D c.ds.length c.cD]] w fun e w' => e = .returned (.bool V) ∧ Below w.heap.size w w' := by
  go_enter Tryd.func19, Tryd.ntmps19
  go_wp2_with fail
  go_loop [3, 4] (fun o i => ∃ k : Nat, k ≤ 7 ∧ i = .int .i64 k ∧ o = .bool (opn c k)) (fun _ i => 7 - (intOf i).toNat)
  case atStart => exact ⟨0, by omega, rfl, rfl⟩
  case round =>
    obtain ⟨k, hk, rfl, rfl⟩ := hrel
    by_cases hlt : k < 7
    · have hltz : (k : Int) < 7 := by omega
      have hix := off_at c k hlt
      cases ho : opn c k
      · have HO := Lib.hid ho; clear ho
        go_wp2_with fail
        go_round
        case rel => exact ⟨k + 1, by omega, by go_num, by rw [opn, HO.out]; rfl⟩
        case measure => simp [intOf]; omega
      · have HO := Lib.hid ho; clear ho
        go_wp2_with fail
        go_round
        case rel => exact ⟨k + 1, by omega, by go_num, by rw [opn, HO.out]; rfl⟩
        case measure => simp [intOf]; omega
    · obtain rfl : k = 7 := by omega
      rw [opn7]
      cases ho : c.open_
      · have HV := Lib.hid (CalP.may_no1 ho); clear ho
        go_wp2_with fail
        go_ret
        exact ⟨ret_bool (by rw [← hV.out, HV.out]), by repeat (first | assumption | exact Below.refl _ _ | (with_reducible refine Below.drew ?_) | (with_reducible refine below_drewN' ?_ _) | (with_reducible refine below_al ?_) | ((with_reducible refine below_set ?_ ?_); rotate_left; focus (first | (simp; done) | (simp; omega))))⟩
      · have H1 := Lib.hid ho; clear ho
        by_cases n1 : c.rs.length ≤ 100
        · have n1z : (c.rs.length : Int) ≤ 100 := by omega
          by_cases n2 : c.ds.length ≤ 1000
          · have n2z : (c.ds.length : Int) ≤ 1000 := by omega
            go_wp2_with fail
            rw [hA.out]
            have HB0 : Hid (Below (w.alloc (.cells #[.bool c.o0, .bool c.o1, .bool c.o2, .bool c.o3, .bool c.o4, .bool c.o5, .bool c.o6, .slice (some ⟨rb, ro, none⟩) c.rs.length c.cR, .slice c.D c.ds.length c.cD] 26)).heap.size (w.alloc (.cells #[.bool c.o0, .bool c.o1, .bool c.o2, .bool c.o3, .bool c.o4, .bool c.o5, .bool c.o6, .slice (some ⟨rb, ro, none⟩) c.rs.length c.cR, .slice c.D c.ds.length c.cD] 26)) (w.alloc (.cells #[.bool c.o0, .bool c.o1, .bool c.o2, .bool c.o3, .bool c.o4, .bool c.o5, .bool c.o6, .slice (some ⟨rb, ro, none⟩) c.rs.length c.cR, .slice c.D c.ds.length c.cD] 26))) := Lib.hid (Below.refl _ _)
            go_loopw [5] (fun i wr => ∃ k : Nat, k ≤ c.rs.length ∧ i = .int .i64 k ∧ Hid (Below (w.alloc (.cells #[.bool c.o0, .bool c.o1, .bool c.o2, .bool c.o3, .bool c.o4, .bool c.o5, .bool c.o6, .slice (some ⟨rb, ro, none⟩) c.rs.length c.cR, .slice c.D c.ds.length c.cD] 26)).heap.size (w.alloc (.cells #[.bool c.o0, .bool c.o1, .bool c.o2, .bool c.o3, .bool c.o4, .bool c.o5, .bool c.o6, .slice (some ⟨rb, ro, none⟩) c.rs.length c.cR, .slice c.D c.ds.length c.cD] 26)) wr) ∧ Hid (∀ j, j < k → (c.rs[j]!).may = true)) (fun i _ => c.rs.length - (intOf i).toNat)
            case atStart => exact ⟨0, Nat.zero_le _, rfl, HB0, fun j hj => absurd hj (Nat.not_lt_zero _)⟩
            case round =>
              obtain ⟨k, hkk, rfl, hbr, A⟩ := hrel
              clear HB0
              by_cases hlt : k < c.rs.length
              · obtain ⟨hcr, hfr⟩ := bcell hbr.out
                have hzr := hbr.out.size; (try simp at hzr)
                have hBr : Below w.heap.size w wr := (below_one w _).trans (hbr.out.mono (by simp))
                have hltz : (k : Int) < (c.rs.length : Int) := by omega
                have l2 := hrc k hlt
                generalize hy : c.rs[k]! = y at l2
                have HY := Lib.hid hy; clear hy
                have g0 : w.cell? ⟨rb, ro + k * 8, none⟩ = some (.int .i64 y.kd) := l2 0 _ rfl
                have g1 : w.cell? ⟨rb, ro + k * 8 + 1, none⟩ = some (.int .i64 y.mo) := l2 1 _ rfl
                have g2 : w.cell? ⟨rb, ro + k * 8 + 2, none⟩ = some (.int .i64 y.da) := l2 2 _ rfl
                have g3 : w.cell? ⟨rb, ro + k * 8 + 3, none⟩ = some (.int .i64 y.kk) := l2 3 _ rfl
                have g4 : w.cell? ⟨rb, ro + k * 8 + 4, none⟩ = some (.int .i64 y.off) := l2 4 _ rfl
                have g5 : w.cell? ⟨rb, ro + k * 8 + 5, none⟩ = some (.int .i64 y.sh) := l2 5 _ rfl
                have g6 : w.cell? ⟨rb, ro + k * 8 + 6, none⟩ = some (.int .i64 y.fr) := l2 6 _ rfl
                have g7 : w.cell? ⟨rb, ro + k * 8 + 7, none⟩ = some (.int .i64 y.to) := l2 7 _ rfl
                clear l2
                cases hq : y.may
                · have HQ := Lib.hid hq; clear hq
                  have HV : Hid (c.may = false) := Lib.hid (CalP.may_no4 hlt (by rw [HY.out]; exact HQ.out))
                  go_wp2_with fail
                  refine (rruleMay_c _ _ _ _ _ _ _ _ _).mono ?_; rintro e w2 ⟨rfl, hb2⟩
                  rw [show Rul.may y.kd y.mo y.da y.kk y.off y.sh y.fr y.to = false from HQ.out]
                  go_wp2_with fail
                  go_ret
                  exact ⟨ret_bool (by rw [← hV.out, HV.out]), hBr.trans (hb2.mono hBr.size)⟩
                · have HQ := Lib.hid hq; clear hq
                  go_wp2_with fail
                  refine (rruleMay_c _ _ _ _ _ _ _ _ _).mono ?_; rintro e w2 ⟨rfl, hb2⟩
                  rw [show Rul.may y.kd y.mo y.da y.kk y.off y.sh y.fr y.to = true from HQ.out]
                  have hnx : Below (w.alloc (.cells #[.bool c.o0, .bool c.o1, .bool c.o2, .bool c.o3, .bool c.o4, .bool c.o5, .bool c.o6, .slice (some ⟨rb, ro, none⟩) c.rs.length c.cR, .slice c.D c.ds.length c.cD] 26)).heap.size (w.alloc (.cells #[.bool c.o0, .bool c.o1, .bool c.o2, .bool c.o3, .bool c.o4, .bool c.o5, .bool c.o6, .slice (some ⟨rb, ro, none⟩) c.rs.length c.cR, .slice c.D c.ds.length c.cD] 26)) w2 := hbr.out.trans (hb2.mono hbr.out.size)
                  go_wp2_with fail
                  go_roundw
                  case rel =>
                    refine ⟨k + 1, by omega, by go_num, hnx, (show Hid _ from fun j hj => ?_)⟩
                    by_cases e : j = k
                    · subst e; rw [HY.out]; exact HQ.out
                    · exact A.out j (by omega)
                  case measure => simp [intOf]; omega
              · have hltz : ¬ (k : Int) < (c.rs.length : Int) := by omega
                have hke : k = c.rs.length := by omega
                subst hke
                have HR := Lib.hid A.out; clear A hrc
                obtain ⟨hcr0, hfr0⟩ := bcell hbr.out
                have hzr0 := hbr.out.size; (try simp at hzr0)
                go_wp2_with fail
                clear hcr0 hfr0
                obtain ⟨wo, rfl⟩ : ∃ wo : World, wo = wr := ⟨_, rfl⟩
                obtain ⟨hcr, hfr⟩ := bcell hbr.out
                have hzr := hbr.out.size; (try simp at hzr)
                have hBr : Below w.heap.size w wo := (below_one w _).trans (hbr.out.mono (by simp))
                go_loopw [7] (fun i w3 => ∃ k : Nat, k ≤ c.ds.length ∧ i = .int .i64 k ∧ Hid (∀ j, j < k → dayB (c.ds.getD j 0) = true) ∧ Hid (∀ j, 0 < j → j < k → c.ds.getD (j - 1) 0 < c.ds.getD j 0) ∧ ∃ q : Nat, w3 = wo.drewN q) (fun i _ => c.ds.length - (intOf i).toNat)
                case atStart => exact ⟨0, Nat.zero_le _, rfl, fun j hj => absurd hj (Nat.not_lt_zero _), fun j _ hj => absurd hj (Nat.not_lt_zero _), 0, rfl⟩
                case round =>
                  obtain ⟨k, hkk, rfl, A1, A2, q, rfl⟩ := hrel
                  have hke : k = c.ds.length := by have := hDs.out; rw [this] at hkk ⊢; simp at hkk ⊢; exact hkk
                  subst hke
                  have HV : Hid (c.may = true) := Lib.hid (CalP.may_yes H1.out (by omega) (by omega) HR.out A1.out A2.out)
                  go_wp2_with fail
                  go_ret
                  exact ⟨ret_bool (by rw [← hV.out, HV.out]), by repeat (first | assumption | exact Below.refl _ _ | (with_reducible refine Below.drew ?_) | (with_reducible refine below_drewN' ?_ _) | (with_reducible refine below_al ?_) | ((with_reducible refine below_set ?_ ?_); rotate_left; focus (first | (simp; done) | (simp; omega))))⟩
          · have HV := Lib.hid (CalP.may_no3 n2)
            have n2z : (1000 : Int) < (c.ds.length : Int) := by omega
            go_wp2_with fail
            go_ret
            exact ⟨ret_bool (by rw [← hV.out, HV.out]), by repeat (first | assumption | exact Below.refl _ _ | (with_reducible refine Below.drew ?_) | (with_reducible refine below_drewN' ?_ _) | (with_reducible refine below_al ?_) | ((with_reducible refine below_set ?_ ?_); rotate_left; focus (first | (simp; done) | (simp; omega))))⟩
        · have HV := Lib.hid (CalP.may_no2 n1)
          have n1z : (100 : Int) < (c.rs.length : Int) := by omega
          go_wp2_with fail
          go_ret
          exact ⟨ret_bool (by rw [← hV.out, HV.out]), by repeat (first | assumption | exact Below.refl _ _ | (with_reducible refine Below.drew ?_) | (with_reducible refine below_drewN' ?_ _) | (with_reducible refine below_al ?_) | ((with_reducible refine below_set ?_ ?_); rotate_left; focus (first | (simp; done) | (simp; omega))))⟩
set_option maxRecDepth 100000 in
set_option maxHeartbeats 8000000 in
theorem rcm_10 (c : CalP) (V : Bool) (hV : Hid (c.may = V)) (w : World) (db do_ : Nat) (hD : Hid (c.D = some ⟨db, do_, none⟩)) (hdb : db < w.heap.size) (hdc : ∀ j, j < c.ds.length → w.cell? ⟨db, do_ + j, none⟩ = some (.int .i64 (c.ds.getD j 0))) (hR : Hid (c.rs = [])) : Calls Tryd.prog 19 #[.agg #[.bool c.o0, .bool c.o1, .bool c.o2, .bool c.o3, .bool c.o4, .bool c.o5, .bool c.o6, .slice c.A c.rs.length c.cR, .slice c.D c.ds.length c.cD]] w fun e w' => e = .returned (.bool V) ∧ Below w.heap.size w w' := by
  go_enter Tryd.func19, Tryd.ntmps19
  go_wp2_with fail
  go_loop [3, 4] (fun o i => ∃ k : Nat, k ≤ 7 ∧ i = .int .i64 k ∧ o = .bool (opn c k)) (fun _ i => 7 - (intOf i).toNat)
  case atStart => exact ⟨0, by omega, rfl, rfl⟩
  case round =>
    obtain ⟨k, hk, rfl, rfl⟩ := hrel
    by_cases hlt : k < 7
    · have hltz : (k : Int) < 7 := by omega
      have hix := off_at c k hlt
      cases ho : opn c k
      · have HO := Lib.hid ho; clear ho
        go_wp2_with fail
        go_round
        case rel => exact ⟨k + 1, by omega, by go_num, by rw [opn, HO.out]; rfl⟩
        case measure => simp [intOf]; omega
      · have HO := Lib.hid ho; clear ho
        go_wp2_with fail
        go_round
        case rel => exact ⟨k + 1, by omega, by go_num, by rw [opn, HO.out]; rfl⟩
        case measure => simp [intOf]; omega
    · obtain rfl : k = 7 := by omega
      rw [opn7]
      cases ho : c.open_
      · have HV := Lib.hid (CalP.may_no1 ho); clear ho
        go_wp2_with fail
        go_ret
        exact ⟨ret_bool (by rw [← hV.out, HV.out]), by repeat (first | assumption | exact Below.refl _ _ | (with_reducible refine Below.drew ?_) | (with_reducible refine below_drewN' ?_ _) | (with_reducible refine below_al ?_) | ((with_reducible refine below_set ?_ ?_); rotate_left; focus (first | (simp; done) | (simp; omega))))⟩
      · have H1 := Lib.hid ho; clear ho
        by_cases n1 : c.rs.length ≤ 100
        · have n1z : (c.rs.length : Int) ≤ 100 := by omega
          by_cases n2 : c.ds.length ≤ 1000
          · have n2z : (c.ds.length : Int) ≤ 1000 := by omega
            go_wp2_with fail
            rw [hD.out]
            have HB0 : Hid (Below (w.alloc (.cells #[.bool c.o0, .bool c.o1, .bool c.o2, .bool c.o3, .bool c.o4, .bool c.o5, .bool c.o6, .slice c.A c.rs.length c.cR, .slice (some ⟨db, do_, none⟩) c.ds.length c.cD] 26)).heap.size (w.alloc (.cells #[.bool c.o0, .bool c.o1, .bool c.o2, .bool c.o3, .bool c.o4, .bool c.o5, .bool c.o6, .slice c.A c.rs.length c.cR, .slice (some ⟨db, do_, none⟩) c.ds.length c.cD] 26)) (w.alloc (.cells #[.bool c.o0, .bool c.o1, .bool c.o2, .bool c.o3, .bool c.o4, .bool c.o5, .bool c.o6, .slice c.A c.rs.length c.cR, .slice (some ⟨db, do_, none⟩) c.ds.length c.cD] 26))) := Lib.hid (Below.refl _ _)
            go_loopw [5] (fun i wr => ∃ k : Nat, k ≤ c.rs.length ∧ i = .int .i64 k ∧ Hid (Below (w.alloc (.cells #[.bool c.o0, .bool c.o1, .bool c.o2, .bool c.o3, .bool c.o4, .bool c.o5, .bool c.o6, .slice c.A c.rs.length c.cR, .slice (some ⟨db, do_, none⟩) c.ds.length c.cD] 26)).heap.size (w.alloc (.cells #[.bool c.o0, .bool c.o1, .bool c.o2, .bool c.o3, .bool c.o4, .bool c.o5, .bool c.o6, .slice c.A c.rs.length c.cR, .slice (some ⟨db, do_, none⟩) c.ds.length c.cD] 26)) wr) ∧ Hid (∀ j, j < k → (c.rs[j]!).may = true)) (fun i _ => c.rs.length - (intOf i).toNat)
            case atStart => exact ⟨0, Nat.zero_le _, rfl, HB0, fun j hj => absurd hj (Nat.not_lt_zero _)⟩
            case round =>
              obtain ⟨k, hkk, rfl, hbr, A⟩ := hrel
              clear HB0
              have hke : k = c.rs.length := by have := hR.out; rw [this] at hkk ⊢; simp at hkk ⊢; exact hkk
              subst hke
              have HR := Lib.hid A.out; clear A
              obtain ⟨hcr0, hfr0⟩ := bcell hbr.out
              have hzr0 := hbr.out.size; (try simp at hzr0)
              go_wp2_with fail
              clear hcr0 hfr0
              obtain ⟨wo, rfl⟩ : ∃ wo : World, wo = wr := ⟨_, rfl⟩
              obtain ⟨hcr, hfr⟩ := bcell hbr.out
              have hzr := hbr.out.size; (try simp at hzr)
              have hBr : Below w.heap.size w wo := (below_one w _).trans (hbr.out.mono (by simp))
              go_loopw [7] (fun i w3 => ∃ k : Nat, k ≤ c.ds.length ∧ i = .int .i64 k ∧ Hid (∀ j, j < k → dayB (c.ds.getD j 0) = true) ∧ Hid (∀ j, 0 < j → j < k → c.ds.getD (j - 1) 0 < c.ds.getD j 0) ∧ ∃ q : Nat, w3 = wo.drewN q) (fun i _ => c.ds.length - (intOf i).toNat)
              case atStart => exact ⟨0, Nat.zero_le _, rfl, fun j hj => absurd hj (Nat.not_lt_zero _), fun j _ hj => absurd hj (Nat.not_lt_zero _), 0, rfl⟩
              case round =>
                obtain ⟨k, hkk, rfl, A1, A2, q, rfl⟩ := hrel
                by_cases hlt : k < c.ds.length
                · have hltz : (k : Int) < (c.ds.length : Int) := by omega
                  have g := hdc k hlt
                  cases hday : dayB (c.ds.getD k 0)
                  · have HV : Hid (c.may = false) := Lib.hid (CalP.may_no5 hlt hday)
                    clear hdc
                    generalize c.ds.getD k 0 = x at *
                    go_wp2_with fail
                    refine (rday_c _ _).mono ?_; rintro e w' ⟨rfl, rfl⟩
                    go_wp2_with fail
                    go_quiet (fail)
                    go_wp2_with fail
                    go_ret
                    exact ⟨ret_bool (by rw [← hV.out, HV.out]), by repeat (first | assumption | exact Below.refl _ _ | (with_reducible refine Below.drew ?_) | (with_reducible refine below_drewN' ?_ _) | (with_reducible refine below_al ?_) | ((with_reducible refine below_set ?_ ?_); rotate_left; focus (first | (simp; done) | (simp; omega))))⟩
                  · have HD := Lib.hid hday
                    by_cases h0 : k = 0
                    · subst h0
                      have g : w.cell? ⟨db, do_, none⟩ = _ := g
                      clear hdc
                      generalize hX : c.ds.getD 0 0 = x at *; have HX := Lib.hid hX; clear hX
                      go_wp2_with fail
                      refine (rday_c _ _).mono ?_; rintro e w' ⟨rfl, rfl⟩
                      go_wp2_with fail
                      go_quiet (fail)
                      go_wp2_with fail
                      go_roundw
                      case rel =>
                        refine ⟨1, by omega, rfl, (show Hid _ from fun j hj => ?_), fun j h1 h2 => absurd h2 (by omega), _, rfl⟩
                        obtain rfl : j = 0 := by omega
                        rw [HX.out]; exact HD.out
                      case measure => simp [intOf]; omega
                    · have g2 := hdc (k - 1) (by omega)
                      have hk0 : decide ((0 : Int) < (k : Int)) = true := decide_eq_true (by omega)
                      have hk0n : 0 < k := by omega
                      have hk0b : decide (0 < k) = true := decide_eq_true (by omega)
                      have hk1 : (1 : Int) ≤ (k : Int) := by omega
                      have hk2 : (k : Int) - 1 < (c.ds.length : Int) := by omega
                      have hk3 : IntKind.i64.wrap ((k : Int) - 1) = (k : Int) - 1 := IntWalk.i64_in _ (by omega)
                      by_cases hle : c.ds.getD k 0 ≤ c.ds.getD (k - 1) 0
                      · have HV : Hid (c.may = false) := Lib.hid (CalP.may_no6 (k := k) (by omega) hlt hle)
                        clear hdc
                        generalize c.ds.getD (k - 1) 0 = y at *
                        generalize c.ds.getD k 0 = x at *
                        have hle2 := decide_eq_true hle
                        go_wp2_with fail
                        refine (rday_c _ _).mono ?_; rintro e w' ⟨rfl, rfl⟩
                        go_wp2_with fail
                        go_quiet (fail)
                        go_wp2_with fail
                        go_ret
                        exact ⟨ret_bool (by rw [← hV.out, HV.out]), by repeat (first | assumption | exact Below.refl _ _ | (with_reducible refine Below.drew ?_) | (with_reducible refine below_drewN' ?_ _) | (with_reducible refine below_al ?_) | ((with_reducible refine below_set ?_ ?_); rotate_left; focus (first | (simp; done) | (simp; omega))))⟩
                      · have HL := Lib.hid hle
                        have hle2 := decide_eq_false hle
                        clear hle
                        clear hdc
                        generalize hY : c.ds.getD (k - 1) 0 = y at *; have HY := Lib.hid hY; clear hY
                        generalize hX : c.ds.getD k 0 = x at *; have HX := Lib.hid hX; clear hX
                        go_wp2_with fail
                        refine (rday_c _ _).mono ?_; rintro e w' ⟨rfl, rfl⟩
                        go_wp2_with fail
                        go_quiet (fail)
                        go_wp2_with fail
                        go_roundw
                        case rel =>
                          refine ⟨k + 1, by omega, by go_num, (show Hid _ from fun j hj => ?_), (show Hid _ from fun j h1 h2 => ?_), _, rfl⟩
                          · by_cases e : j = k
                            · subst e; rw [HX.out]; exact HD.out
                            · exact A1.out j (by omega)
                          · by_cases e : j = k
                            · subst e; have := HL.out; have := HY.out; rw [HX.out]; omega
                            · exact A2.out j h1 (by omega)
                        case measure => simp [intOf]; omega
                · have hltz : ¬ (k : Int) < (c.ds.length : Int) := by omega
                  have hke : k = c.ds.length := by omega
                  subst hke
                  clear hdc
                  have HV : Hid (c.may = true) := Lib.hid (CalP.may_yes H1.out (by omega) (by omega) HR.out A1.out A2.out)
                  go_wp2_with fail
                  go_ret
                  exact ⟨ret_bool (by rw [← hV.out, HV.out]), by repeat (first | assumption | exact Below.refl _ _ | (with_reducible refine Below.drew ?_) | (with_reducible refine below_drewN' ?_ _) | (with_reducible refine below_al ?_) | ((with_reducible refine below_set ?_ ?_); rotate_left; focus (first | (simp; done) | (simp; omega))))⟩
          · have HV := Lib.hid (CalP.may_no3 n2)
            have n2z : (1000 : Int) < (c.ds.length : Int) := by omega
            go_wp2_with fail
            go_ret
            exact ⟨ret_bool (by rw [← hV.out, HV.out]), by repeat (first | assumption | exact Below.refl _ _ | (with_reducible refine Below.drew ?_) | (with_reducible refine below_drewN' ?_ _) | (with_reducible refine below_al ?_) | ((with_reducible refine below_set ?_ ?_); rotate_left; focus (first | (simp; done) | (simp; omega))))⟩
        · have HV := Lib.hid (CalP.may_no2 n1)
          have n1z : (100 : Int) < (c.rs.length : Int) := by omega
          go_wp2_with fail
          go_ret
          exact ⟨ret_bool (by rw [← hV.out, HV.out]), by repeat (first | assumption | exact Below.refl _ _ | (with_reducible refine Below.drew ?_) | (with_reducible refine below_drewN' ?_ _) | (with_reducible refine below_al ?_) | ((with_reducible refine below_set ?_ ?_); rotate_left; focus (first | (simp; done) | (simp; omega))))⟩
set_option maxRecDepth 100000 in
set_option maxHeartbeats 8000000 in
theorem rcm_11 (c : CalP) (V : Bool) (hV : Hid (c.may = V)) (w : World) (db do_ : Nat) (hD : Hid (c.D = some ⟨db, do_, none⟩)) (hdb : db < w.heap.size) (hdc : ∀ j, j < c.ds.length → w.cell? ⟨db, do_ + j, none⟩ = some (.int .i64 (c.ds.getD j 0))) (rb ro : Nat) (hA : Hid (c.A = some ⟨rb, ro, none⟩)) (hrb : rb < w.heap.size) (hrc : ∀ j, j < c.rs.length → ∀ i v, (c.rs[j]!.enc)[i]? = some v → w.cell? ⟨rb, ro + j * 8 + i, none⟩ = some v) : Calls Tryd.prog 19 #[.agg #[.bool c.o0, .bool c.o1, .bool c.o2, .bool c.o3, .bool c.o4, .bool c.o5, .bool c.o6, .slice c.A c.rs.length c.cR, .slice c.D c.ds.length c.cD]] w fun e w' => e = .returned (.bool V) ∧ Below w.heap.size w w' := by
  go_enter Tryd.func19, Tryd.ntmps19
  go_wp2_with fail
  go_loop [3, 4] (fun o i => ∃ k : Nat, k ≤ 7 ∧ i = .int .i64 k ∧ o = .bool (opn c k)) (fun _ i => 7 - (intOf i).toNat)
  case atStart => exact ⟨0, by omega, rfl, rfl⟩
  case round =>
    obtain ⟨k, hk, rfl, rfl⟩ := hrel
    by_cases hlt : k < 7
    · have hltz : (k : Int) < 7 := by omega
      have hix := off_at c k hlt
      cases ho : opn c k
      · have HO := Lib.hid ho; clear ho
        go_wp2_with fail
        go_round
        case rel => exact ⟨k + 1, by omega, by go_num, by rw [opn, HO.out]; rfl⟩
        case measure => simp [intOf]; omega
      · have HO := Lib.hid ho; clear ho
        go_wp2_with fail
        go_round
        case rel => exact ⟨k + 1, by omega, by go_num, by rw [opn, HO.out]; rfl⟩
        case measure => simp [intOf]; omega
    · obtain rfl : k = 7 := by omega
      rw [opn7]
      cases ho : c.open_
      · have HV := Lib.hid (CalP.may_no1 ho); clear ho
        go_wp2_with fail
        go_ret
        exact ⟨ret_bool (by rw [← hV.out, HV.out]), by repeat (first | assumption | exact Below.refl _ _ | (with_reducible refine Below.drew ?_) | (with_reducible refine below_drewN' ?_ _) | (with_reducible refine below_al ?_) | ((with_reducible refine below_set ?_ ?_); rotate_left; focus (first | (simp; done) | (simp; omega))))⟩
      · have H1 := Lib.hid ho; clear ho
        by_cases n1 : c.rs.length ≤ 100
        · have n1z : (c.rs.length : Int) ≤ 100 := by omega
          by_cases n2 : c.ds.length ≤ 1000
          · have n2z : (c.ds.length : Int) ≤ 1000 := by omega
            go_wp2_with fail
            rw [hD.out]
            rw [hA.out]
            have HB0 : Hid (Below (w.alloc (.cells #[.bool c.o0, .bool c.o1, .bool c.o2, .bool c.o3, .bool c.o4, .bool c.o5, .bool c.o6, .slice (some ⟨rb, ro, none⟩) c.rs.length c.cR, .slice (some ⟨db, do_, none⟩) c.ds.length c.cD] 26)).heap.size (w.alloc (.cells #[.bool c.o0, .bool c.o1, .bool c.o2, .bool c.o3, .bool c.o4, .bool c.o5, .bool c.o6, .slice (some ⟨rb, ro, none⟩) c.rs.length c.cR, .slice (some ⟨db, do_, none⟩) c.ds.length c.cD] 26)) (w.alloc (.cells #[.bool c.o0, .bool c.o1, .bool c.o2, .bool c.o3, .bool c.o4, .bool c.o5, .bool c.o6, .slice (some ⟨rb, ro, none⟩) c.rs.length c.cR, .slice (some ⟨db, do_, none⟩) c.ds.length c.cD] 26))) := Lib.hid (Below.refl _ _)
            go_loopw [5] (fun i wr => ∃ k : Nat, k ≤ c.rs.length ∧ i = .int .i64 k ∧ Hid (Below (w.alloc (.cells #[.bool c.o0, .bool c.o1, .bool c.o2, .bool c.o3, .bool c.o4, .bool c.o5, .bool c.o6, .slice (some ⟨rb, ro, none⟩) c.rs.length c.cR, .slice (some ⟨db, do_, none⟩) c.ds.length c.cD] 26)).heap.size (w.alloc (.cells #[.bool c.o0, .bool c.o1, .bool c.o2, .bool c.o3, .bool c.o4, .bool c.o5, .bool c.o6, .slice (some ⟨rb, ro, none⟩) c.rs.length c.cR, .slice (some ⟨db, do_, none⟩) c.ds.length c.cD] 26)) wr) ∧ Hid (∀ j, j < k → (c.rs[j]!).may = true)) (fun i _ => c.rs.length - (intOf i).toNat)
            case atStart => exact ⟨0, Nat.zero_le _, rfl, HB0, fun j hj => absurd hj (Nat.not_lt_zero _)⟩
            case round =>
              obtain ⟨k, hkk, rfl, hbr, A⟩ := hrel
              clear HB0
              by_cases hlt : k < c.rs.length
              · obtain ⟨hcr, hfr⟩ := bcell hbr.out
                have hzr := hbr.out.size; (try simp at hzr)
                have hBr : Below w.heap.size w wr := (below_one w _).trans (hbr.out.mono (by simp))
                have hltz : (k : Int) < (c.rs.length : Int) := by omega
                have l2 := hrc k hlt
                generalize hy : c.rs[k]! = y at l2
                have HY := Lib.hid hy; clear hy
                have g0 : w.cell? ⟨rb, ro + k * 8, none⟩ = some (.int .i64 y.kd) := l2 0 _ rfl
                have g1 : w.cell? ⟨rb, ro + k * 8 + 1, none⟩ = some (.int .i64 y.mo) := l2 1 _ rfl
                have g2 : w.cell? ⟨rb, ro + k * 8 + 2, none⟩ = some (.int .i64 y.da) := l2 2 _ rfl
                have g3 : w.cell? ⟨rb, ro + k * 8 + 3, none⟩ = some (.int .i64 y.kk) := l2 3 _ rfl
                have g4 : w.cell? ⟨rb, ro + k * 8 + 4, none⟩ = some (.int .i64 y.off) := l2 4 _ rfl
                have g5 : w.cell? ⟨rb, ro + k * 8 + 5, none⟩ = some (.int .i64 y.sh) := l2 5 _ rfl
                have g6 : w.cell? ⟨rb, ro + k * 8 + 6, none⟩ = some (.int .i64 y.fr) := l2 6 _ rfl
                have g7 : w.cell? ⟨rb, ro + k * 8 + 7, none⟩ = some (.int .i64 y.to) := l2 7 _ rfl
                clear l2
                cases hq : y.may
                · have HQ := Lib.hid hq; clear hq
                  have HV : Hid (c.may = false) := Lib.hid (CalP.may_no4 hlt (by rw [HY.out]; exact HQ.out))
                  go_wp2_with fail
                  refine (rruleMay_c _ _ _ _ _ _ _ _ _).mono ?_; rintro e w2 ⟨rfl, hb2⟩
                  rw [show Rul.may y.kd y.mo y.da y.kk y.off y.sh y.fr y.to = false from HQ.out]
                  go_wp2_with fail
                  go_ret
                  exact ⟨ret_bool (by rw [← hV.out, HV.out]), hBr.trans (hb2.mono hBr.size)⟩
                · have HQ := Lib.hid hq; clear hq
                  go_wp2_with fail
                  refine (rruleMay_c _ _ _ _ _ _ _ _ _).mono ?_; rintro e w2 ⟨rfl, hb2⟩
                  rw [show Rul.may y.kd y.mo y.da y.kk y.off y.sh y.fr y.to = true from HQ.out]
                  have hnx : Below (w.alloc (.cells #[.bool c.o0, .bool c.o1, .bool c.o2, .bool c.o3, .bool c.o4, .bool c.o5, .bool c.o6, .slice (some ⟨rb, ro, none⟩) c.rs.length c.cR, .slice (some ⟨db, do_, none⟩) c.ds.length c.cD] 26)).heap.size (w.alloc (.cells #[.bool c.o0, .bool c.o1, .bool c.o2, .bool c.o3, .bool c.o4, .bool c.o5, .bool c.o6, .slice (some ⟨rb, ro, none⟩) c.rs.length c.cR, .slice (some ⟨db, do_, none⟩) c.ds.length c.cD] 26)) w2 := hbr.out.trans (hb2.mono hbr.out.size)
                  go_wp2_with fail
                  go_roundw
                  case rel =>
                    refine ⟨k + 1, by omega, by go_num, hnx, (show Hid _ from fun j hj => ?_)⟩
                    by_cases e : j = k
                    · subst e; rw [HY.out]; exact HQ.out
                    · exact A.out j (by omega)
                  case measure => simp [intOf]; omega
              · have hltz : ¬ (k : Int) < (c.rs.length : Int) := by omega
                have hke : k = c.rs.length := by omega
                subst hke
                have HR := Lib.hid A.out; clear A hrc
                obtain ⟨hcr0, hfr0⟩ := bcell hbr.out
                have hzr0 := hbr.out.size; (try simp at hzr0)
                go_wp2_with fail
                clear hcr0 hfr0
                obtain ⟨wo, rfl⟩ : ∃ wo : World, wo = wr := ⟨_, rfl⟩
                obtain ⟨hcr, hfr⟩ := bcell hbr.out
                have hzr := hbr.out.size; (try simp at hzr)
                have hBr : Below w.heap.size w wo := (below_one w _).trans (hbr.out.mono (by simp))
                go_loopw [7] (fun i w3 => ∃ k : Nat, k ≤ c.ds.length ∧ i = .int .i64 k ∧ Hid (∀ j, j < k → dayB (c.ds.getD j 0) = true) ∧ Hid (∀ j, 0 < j → j < k → c.ds.getD (j - 1) 0 < c.ds.getD j 0) ∧ ∃ q : Nat, w3 = wo.drewN q) (fun i _ => c.ds.length - (intOf i).toNat)
                case atStart => exact ⟨0, Nat.zero_le _, rfl, fun j hj => absurd hj (Nat.not_lt_zero _), fun j _ hj => absurd hj (Nat.not_lt_zero _), 0, rfl⟩
                case round =>
                  obtain ⟨k, hkk, rfl, A1, A2, q, rfl⟩ := hrel
                  by_cases hlt : k < c.ds.length
                  · have hltz : (k : Int) < (c.ds.length : Int) := by omega
                    have g := hdc k hlt
                    cases hday : dayB (c.ds.getD k 0)
                    · have HV : Hid (c.may = false) := Lib.hid (CalP.may_no5 hlt hday)
                      clear hdc
                      generalize c.ds.getD k 0 = x at *
                      go_wp2_with fail
                      refine (rday_c _ _).mono ?_; rintro e w' ⟨rfl, rfl⟩
                      go_wp2_with fail
                      go_quiet (fail)
                      go_wp2_with fail
                      go_ret
                      exact ⟨ret_bool (by rw [← hV.out, HV.out]), by repeat (first | assumption | exact Below.refl _ _ | (with_reducible refine Below.drew ?_) | (with_reducible refine below_drewN' ?_ _) | (with_reducible refine below_al ?_) | ((with_reducible refine below_set ?_ ?_); rotate_left; focus (first | (simp; done) | (simp; omega))))⟩
                    · have HD := Lib.hid hday
                      by_cases h0 : k = 0
                      · subst h0
                        have g : w.cell? ⟨db, do_, none⟩ = _ := g
                        clear hdc
                        generalize hX : c.ds.getD 0 0 = x at *; have HX := Lib.hid hX; clear hX
                        go_wp2_with fail
                        refine (rday_c _ _).mono ?_; rintro e w' ⟨rfl, rfl⟩
                        go_wp2_with fail
                        go_quiet (fail)
                        go_wp2_with fail
                        go_roundw
                        case rel =>
                          refine ⟨1, by omega, rfl, (show Hid _ from fun j hj => ?_), fun j h1 h2 => absurd h2 (by omega), _, rfl⟩
                          obtain rfl : j = 0 := by omega
                          rw [HX.out]; exact HD.out
                        case measure => simp [intOf]; omega
                      · have g2 := hdc (k - 1) (by omega)
                        have hk0 : decide ((0 : Int) < (k : Int)) = true := decide_eq_true (by omega)
                        have hk0n : 0 < k := by omega
                        have hk0b : decide (0 < k) = true := decide_eq_true (by omega)
                        have hk1 : (1 : Int) ≤ (k : Int) := by omega
                        have hk2 : (k : Int) - 1 < (c.ds.length : Int) := by omega
                        have hk3 : IntKind.i64.wrap ((k : Int) - 1) = (k : Int) - 1 := IntWalk.i64_in _ (by omega)
                        by_cases hle : c.ds.getD k 0 ≤ c.ds.getD (k - 1) 0
                        · have HV : Hid (c.may = false) := Lib.hid (CalP.may_no6 (k := k) (by omega) hlt hle)
                          clear hdc
                          generalize c.ds.getD (k - 1) 0 = y at *
                          generalize c.ds.getD k 0 = x at *
                          have hle2 := decide_eq_true hle
                          go_wp2_with fail
                          refine (rday_c _ _).mono ?_; rintro e w' ⟨rfl, rfl⟩
                          go_wp2_with fail
                          go_quiet (fail)
                          go_wp2_with fail
                          go_ret
                          exact ⟨ret_bool (by rw [← hV.out, HV.out]), by repeat (first | assumption | exact Below.refl _ _ | (with_reducible refine Below.drew ?_) | (with_reducible refine below_drewN' ?_ _) | (with_reducible refine below_al ?_) | ((with_reducible refine below_set ?_ ?_); rotate_left; focus (first | (simp; done) | (simp; omega))))⟩
                        · have HL := Lib.hid hle
                          have hle2 := decide_eq_false hle
                          clear hle
                          clear hdc
                          generalize hY : c.ds.getD (k - 1) 0 = y at *; have HY := Lib.hid hY; clear hY
                          generalize hX : c.ds.getD k 0 = x at *; have HX := Lib.hid hX; clear hX
                          go_wp2_with fail
                          refine (rday_c _ _).mono ?_; rintro e w' ⟨rfl, rfl⟩
                          go_wp2_with fail
                          go_quiet (fail)
                          go_wp2_with fail
                          go_roundw
                          case rel =>
                            refine ⟨k + 1, by omega, by go_num, (show Hid _ from fun j hj => ?_), (show Hid _ from fun j h1 h2 => ?_), _, rfl⟩
                            · by_cases e : j = k
                              · subst e; rw [HX.out]; exact HD.out
                              · exact A1.out j (by omega)
                            · by_cases e : j = k
                              · subst e; have := HL.out; have := HY.out; rw [HX.out]; omega
                              · exact A2.out j h1 (by omega)
                          case measure => simp [intOf]; omega
                  · have hltz : ¬ (k : Int) < (c.ds.length : Int) := by omega
                    have hke : k = c.ds.length := by omega
                    subst hke
                    clear hdc
                    have HV : Hid (c.may = true) := Lib.hid (CalP.may_yes H1.out (by omega) (by omega) HR.out A1.out A2.out)
                    go_wp2_with fail
                    go_ret
                    exact ⟨ret_bool (by rw [← hV.out, HV.out]), by repeat (first | assumption | exact Below.refl _ _ | (with_reducible refine Below.drew ?_) | (with_reducible refine below_drewN' ?_ _) | (with_reducible refine below_al ?_) | ((with_reducible refine below_set ?_ ?_); rotate_left; focus (first | (simp; done) | (simp; omega))))⟩
          · have HV := Lib.hid (CalP.may_no3 n2)
            have n2z : (1000 : Int) < (c.ds.length : Int) := by omega
            go_wp2_with fail
            go_ret
            exact ⟨ret_bool (by rw [← hV.out, HV.out]), by repeat (first | assumption | exact Below.refl _ _ | (with_reducible refine Below.drew ?_) | (with_reducible refine below_drewN' ?_ _) | (with_reducible refine below_al ?_) | ((with_reducible refine below_set ?_ ?_); rotate_left; focus (first | (simp; done) | (simp; omega))))⟩
        · have HV := Lib.hid (CalP.may_no2 n1)
          have n1z : (100 : Int) < (c.rs.length : Int) := by omega
          go_wp2_with fail
          go_ret
          exact ⟨ret_bool (by rw [← hV.out, HV.out]), by repeat (first | assumption | exact Below.refl _ _ | (with_reducible refine Below.drew ?_) | (with_reducible refine below_drewN' ?_ _) | (with_reducible refine below_al ?_) | ((with_reducible refine below_set ?_ ?_); rotate_left; focus (first | (simp; done) | (simp; omega))))⟩
theorem rcalMay_c (c : CalP) (w : World) (hc : CalIn w c) : Calls Tryd.prog 19 #[.agg #[.bool c.o0, .bool c.o1, .bool c.o2, .bool c.o3, .bool c.o4, .bool c.o5, .bool c.o6, .slice c.A c.rs.length c.cR, .slice c.D c.ds.length c.cD]] w fun e w' => e = .returned (.bool c.may) ∧ Below w.heap.size w w' := by
  rcases hc.d with hd | ⟨db, do_, hD, hdb, hdc⟩ <;> rcases hc.r with hr | ⟨rb, ro, hA, hrb, hrc⟩
  · exact rcm_00 c _ rfl w hd hr
  · exact rcm_01 c _ rfl w hd rb ro hA hrb hrc
  · exact rcm_10 c _ rfl w db do_ hD hdb hdc hr
  · exact rcm_11 c _ rfl w db do_ hD hdb hdc rb ro hA hrb hrc
end Go.Proofs.YtlilffoflkkbdaaDoor
