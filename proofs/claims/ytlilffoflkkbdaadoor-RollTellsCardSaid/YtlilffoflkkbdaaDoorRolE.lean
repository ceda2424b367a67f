/- The contracts of the rolls, the document's: step, on, back, month, and by each way. Conditions: rules may be, and days rise. -/
import Derived.Test.YtlilffoflkkbdaaDoorRolC
import Derived.Test.YtlilffoflkkbdaaDoorROpP
import Derived.Test.YtlilffoflkkbdaaDoorUndef
namespace Go.Proofs.YtlilffoflkkbdaaDoor
open Go.RowKit
set_option linter.unusedVariables false
/-- What stands at a round's head: it goes on as the program's, or it has left the days. -/
def StepAt (c : CalP) (s n a b : Int) (k : Nat) : Bool → Prop
  | false => sk c s (61 - k) (n + k * s) = (a, b)
  | true => (a, b) = (0, 3) ∧ (if s = 1 then 3652059 < n + k else n - k < 1)
set_option maxHeartbeats 2000000 in
theorem rstep_up_out (c : CalP) (n : Int) (h : dayB n = false) (w : World) : Calls Tryd.prog 49 #[.agg #[.bool c.o0, .bool c.o1, .bool c.o2, .bool c.o3, .bool c.o4, .bool c.o5, .bool c.o6, .slice c.A c.rs.length c.cR, .slice c.D c.ds.length c.cD], .int .i64 n, .int .i64 1] w fun e w' => e = .returned (.tuple #[.int .i64 0, .int .i64 3]) ∧ Below w.heap.size w w' := by
  have hB : Below w.heap.size w w := Below.refl _ _
  go_enter Tryd.func49, Tryd.ntmps49
  go_wp2_with fail
  refine (rday_c _ _).mono ?_; rintro e w' ⟨rfl, rfl⟩
  go_wp2_with fail
  go_ret2
  exact ⟨rfl, by repeat (first | assumption | exact Below.refl _ _ | (with_reducible refine Below.drew ?_) | (with_reducible refine below_drewN' ?_ _) | (with_reducible refine below_al ?_) | ((with_reducible refine below_set ?_ ?_); rotate_left; focus (first | (simp; done) | (simp; omega))))⟩
set_option maxRecDepth 100000 in
set_option maxHeartbeats 4000000 in
theorem rstep_up_in (c : CalP) (n : Int) (h1 : 1 ≤ n) (h2 : n ≤ 3652059) (hk : CalOk c) (a b : Int) (hR : Hid (sk c 1 61 n = (a, b))) (w : World) (hc : CalIn w c) : Calls Tryd.prog 49 #[.agg #[.bool c.o0, .bool c.o1, .bool c.o2, .bool c.o3, .bool c.o4, .bool c.o5, .bool c.o6, .slice c.A c.rs.length c.cR, .slice c.D c.ds.length c.cD], .int .i64 n, .int .i64 1] w fun e w' => e = .returned (.tuple #[.int .i64 a, .int .i64 b]) ∧ Below w.heap.size w w' := by
  have dy := dayB_in h1 h2
  go_enter Tryd.func49, Tryd.ntmps49
  go_wp2_with fail
  refine (rday_c _ _).mono ?_; rintro e w' ⟨rfl, rfl⟩
  go_wp2_with fail
  clear dy
  have HB0 : Hid (Below (w.alloc (.cells #[.bool c.o0, .bool c.o1, .bool c.o2, .bool c.o3, .bool c.o4, .bool c.o5, .bool c.o6, .slice c.A c.rs.length c.cR, .slice c.D c.ds.length c.cD] 26)).heap.size (w.alloc (.cells #[.bool c.o0, .bool c.o1, .bool c.o2, .bool c.o3, .bool c.o4, .bool c.o5, .bool c.o6, .slice c.A c.rs.length c.cR, .slice c.D c.ds.length c.cD] 26)) (w.alloc (.cells #[.bool c.o0, .bool c.o1, .bool c.o2, .bool c.o3, .bool c.o4, .bool c.o5, .bool c.o6, .slice c.A c.rs.length c.cR, .slice c.D c.ds.length c.cD] 26))) := Lib.hid (Below.refl _ _)
  go_loopw [9, 10] (fun o i wr => ∃ (k : Nat) (u : Bool), k ≤ 61 ∧ i = .int .i64 k ∧ o = .bool u ∧ Hid (Below (w.alloc (.cells #[.bool c.o0, .bool c.o1, .bool c.o2, .bool c.o3, .bool c.o4, .bool c.o5, .bool c.o6, .slice c.A c.rs.length c.cR, .slice c.D c.ds.length c.cD] 26)).heap.size (w.alloc (.cells #[.bool c.o0, .bool c.o1, .bool c.o2, .bool c.o3, .bool c.o4, .bool c.o5, .bool c.o6, .slice c.A c.rs.length c.cR, .slice c.D c.ds.length c.cD] 26)) wr) ∧ Hid (StepAt c 1 n a b k u)) (fun _ i _ => 61 - (intOf i).toNat)
  case atStart => exact ⟨0, false, by omega, rfl, rfl, HB0, Lib.hid (by show sk c 1 (61 - 0) (n + ((0 : Nat) : Int) * 1) = (a, b); rw [← hR.out]; simp)⟩
  case round =>
    obtain ⟨k, u, hkk, rfl, rfl, hbr, A⟩ := hrel
    clear HB0
    obtain ⟨hcr, hfr⟩ := bcell hbr.out
    have hzr := hbr.out.size; (try simp at hzr)
    have hBr : Below w.heap.size w wr := (below_one w _).trans (hbr.out.mono (by simp))
    have lt0 : w.heap.size < wr.heap.size := by omega
    by_cases hlt : k < 61
    · have hltz : (k : Int) ≤ 60 := by omega
      obtain ⟨m, hm⟩ : ∃ m, n + (k : Int) * 1 = m := ⟨_, rfl⟩
      have HM := Lib.hid hm
      have he : Hid ((n + (k : Int)) = m) := Lib.hid (by omega)
      have hms : Hid (n + ((k + 1 : Nat) : Int) * 1 = m + 1) := Lib.hid (by omega)
      clear hm
      cases u
      · have A2 : Hid (sk c 1 (60 - k + 1) m = (a, b)) := Lib.hid (by have e := A.out; unfold StepAt at e; rw [show 61 - k = 60 - k + 1 from by omega, HM.out] at e; exact e)
        by_cases hd : 1 ≤ m ∧ m ≤ 3652059
        · have dd := dayB_in hd.1 hd.2
          clear hd
          cases hi : c.is m
          · have HI := Lib.hid hi; clear hi
            have nx : StepAt c 1 n a b (k + 1) false := by
              show sk c 1 (61 - (k + 1)) (n + ((k + 1 : Nat) : Int) * 1) = (a, b)
              rw [hms.out, ← A2.out, sk_miss dd HI.out, show 61 - (k + 1) = 60 - k from by omega]
            have NX := Lib.hid nx; clear nx
            go_wp2_with fail
            rw [he.out]
            refine (rcalIs_c c _ hk _ (hc.below (by repeat (first | assumption | exact Below.refl _ _ | (with_reducible refine Below.drew ?_) | (with_reducible refine below_drewN' ?_ _) | (with_reducible refine below_al ?_) | ((with_reducible refine below_set ?_ ?_); rotate_left; focus (first | (simp; done) | (simp; omega))))))).mono ?_; rintro e w2 ⟨rfl, hb2⟩
            have hz2 := hb2.size; obtain ⟨hc2, hf2⟩ := bcell hb2; have hB2 := below_step (w := w) hb2 hBr
            rw [HI.out]
            have hnx : Below (w.alloc (.cells #[.bool c.o0, .bool c.o1, .bool c.o2, .bool c.o3, .bool c.o4, .bool c.o5, .bool c.o6, .slice c.A c.rs.length c.cR, .slice c.D c.ds.length c.cD] 26)).heap.size (w.alloc (.cells #[.bool c.o0, .bool c.o1, .bool c.o2, .bool c.o3, .bool c.o4, .bool c.o5, .bool c.o6, .slice c.A c.rs.length c.cR, .slice c.D c.ds.length c.cD] 26)) w2 := hbr.out.trans (hb2.mono hbr.out.size)
            go_wp2_with fail
            refine (rday_c _ _).mono ?_; rintro e w3 ⟨rfl, rfl⟩
            go_wp2_with fail
            go_roundw
            case rel => exact ⟨k + 1, false, by omega, by go_num, rfl, hnx, (show Hid _ from NX.out)⟩
            case measure => simp [intOf]; omega
          · have HI := Lib.hid hi; clear hi
            go_wp2_with fail
            rw [he.out]
            refine (rcalIs_c c _ hk _ (hc.below (by repeat (first | assumption | exact Below.refl _ _ | (with_reducible refine Below.drew ?_) | (with_reducible refine below_drewN' ?_ _) | (with_reducible refine below_al ?_) | ((with_reducible refine below_set ?_ ?_); rotate_left; focus (first | (simp; done) | (simp; omega))))))).mono ?_; rintro e w2 ⟨rfl, hb2⟩
            have hz2 := hb2.size; obtain ⟨hc2, hf2⟩ := bcell hb2; have hB2 := below_step (w := w) hb2 hBr
            rw [HI.out]
            go_wp2_with fail
            go_ret2
            exact ⟨ret_pair (by rw [← A2.out, sk_hit HI.out]), hB2⟩
        · have hd' : m < 1 ∨ 3652059 < m := by omega
          have dd := dayB_out hd'
          have HI : Hid (c.is m = false) := Lib.hid (CalP.is_out hd')
          have nx : StepAt c 1 n a b (k + 1) true := by
            have e := A2.out; rw [sk_out dd] at e
            refine ⟨e.symm, ?_⟩
            have := HM.out
            first | (rw [if_pos rfl]; omega) | (rw [if_neg (by decide)]; omega)
          have NX := Lib.hid nx; clear nx hd hd'
          go_wp2_with fail
          rw [he.out]
          refine (rcalIs_c c _ hk _ (hc.below (by repeat (first | assumption | exact Below.refl _ _ | (with_reducible refine Below.drew ?_) | (with_reducible refine below_drewN' ?_ _) | (with_reducible refine below_al ?_) | ((with_reducible refine below_set ?_ ?_); rotate_left; focus (first | (simp; done) | (simp; omega))))))).mono ?_; rintro e w2 ⟨rfl, hb2⟩
          have hz2 := hb2.size; obtain ⟨hc2, hf2⟩ := bcell hb2; have hB2 := below_step (w := w) hb2 hBr
          rw [HI.out]
          have hnx : Below (w.alloc (.cells #[.bool c.o0, .bool c.o1, .bool c.o2, .bool c.o3, .bool c.o4, .bool c.o5, .bool c.o6, .slice c.A c.rs.length c.cR, .slice c.D c.ds.length c.cD] 26)).heap.size (w.alloc (.cells #[.bool c.o0, .bool c.o1, .bool c.o2, .bool c.o3, .bool c.o4, .bool c.o5, .bool c.o6, .slice c.A c.rs.length c.cR, .slice c.D c.ds.length c.cD] 26)) w2 := hbr.out.trans (hb2.mono hbr.out.size)
          go_wp2_with fail
          refine (rday_c _ _).mono ?_; rintro e w3 ⟨rfl, rfl⟩
          go_wp2_with fail
          go_roundw
          case rel => exact ⟨k + 1, true, by omega, by go_num, rfl, hnx, (show Hid _ from NX.out)⟩
          case measure => simp [intOf]; omega
      · have hd' : m < 1 ∨ 3652059 < m := by have e := A.out.2; have := HM.out; first | (rw [if_pos rfl] at e; omega) | (rw [if_neg (by decide)] at e; omega)
        have dd := dayB_out hd'
        have HI : Hid (c.is m = false) := Lib.hid (CalP.is_out hd')
        have nx : StepAt c 1 n a b (k + 1) true := by
          refine ⟨A.out.1, ?_⟩
          have e := A.out.2
          first | (rw [if_pos rfl] at e ⊢; omega) | (rw [if_neg (by decide)] at e ⊢; omega)
        have NX := Lib.hid nx; clear nx hd'
        go_wp2_with fail
        rw [he.out]
        refine (rcalIs_c c _ hk _ (hc.below (by repeat (first | assumption | exact Below.refl _ _ | (with_reducible refine Below.drew ?_) | (with_reducible refine below_drewN' ?_ _) | (with_reducible refine below_al ?_) | ((with_reducible refine below_set ?_ ?_); rotate_left; focus (first | (simp; done) | (simp; omega))))))).mono ?_; rintro e w2 ⟨rfl, hb2⟩
        have hz2 := hb2.size; obtain ⟨hc2, hf2⟩ := bcell hb2; have hB2 := below_step (w := w) hb2 hBr
        rw [HI.out]
        have hnx : Below (w.alloc (.cells #[.bool c.o0, .bool c.o1, .bool c.o2, .bool c.o3, .bool c.o4, .bool c.o5, .bool c.o6, .slice c.A c.rs.length c.cR, .slice c.D c.ds.length c.cD] 26)).heap.size (w.alloc (.cells #[.bool c.o0, .bool c.o1, .bool c.o2, .bool c.o3, .bool c.o4, .bool c.o5, .bool c.o6, .slice c.A c.rs.length c.cR, .slice c.D c.ds.length c.cD] 26)) w2 := hbr.out.trans (hb2.mono hbr.out.size)
        go_wp2_with fail
        refine (rday_c _ _).mono ?_; rintro e w3 ⟨rfl, rfl⟩
        go_wp2_with fail
        go_roundw
        case rel => exact ⟨k + 1, true, by omega, by go_num, rfl, hnx, (show Hid _ from NX.out)⟩
        case measure => simp [intOf]; omega
    · obtain rfl : k = 61 := by omega
      cases u
      · go_wp2_with fail
        go_ret2
        exact ⟨ret_pair (by have e := A.out; unfold StepAt at e; rw [← e]; rfl), hBr⟩
      · go_wp2_with fail
        go_ret2
        exact ⟨ret_pair A.out.1.symm, hBr⟩
set_option maxHeartbeats 2000000 in
theorem rstep_dn_out (c : CalP) (n : Int) (h : dayB n = false) (w : World) : Calls Tryd.prog 49 #[.agg #[.bool c.o0, .bool c.o1, .bool c.o2, .bool c.o3, .bool c.o4, .bool c.o5, .bool c.o6, .slice c.A c.rs.length c.cR, .slice c.D c.ds.length c.cD], .int .i64 n, .int .i64 (-1)] w fun e w' => e = .returned (.tuple #[.int .i64 0, .int .i64 3]) ∧ Below w.heap.size w w' := by
  have hB : Below w.heap.size w w := Below.refl _ _
  go_enter Tryd.func49, Tryd.ntmps49
  go_wp2_with fail
  refine (rday_c _ _).mono ?_; rintro e w' ⟨rfl, rfl⟩
  go_wp2_with fail
  go_ret2
  exact ⟨rfl, by repeat (first | assumption | exact Below.refl _ _ | (with_reducible refine Below.drew ?_) | (with_reducible refine below_drewN' ?_ _) | (with_reducible refine below_al ?_) | ((with_reducible refine below_set ?_ ?_); rotate_left; focus (first | (simp; done) | (simp; omega))))⟩
set_option maxRecDepth 100000 in
set_option maxHeartbeats 4000000 in
theorem rstep_dn_in (c : CalP) (n : Int) (h1 : 1 ≤ n) (h2 : n ≤ 3652059) (hk : CalOk c) (a b : Int) (hR : Hid (sk c (-1) 61 n = (a, b))) (w : World) (hc : CalIn w c) : Calls Tryd.prog 49 #[.agg #[.bool c.o0, .bool c.o1, .bool c.o2, .bool c.o3, .bool c.o4, .bool c.o5, .bool c.o6, .slice c.A c.rs.length c.cR, .slice c.D c.ds.length c.cD], .int .i64 n, .int .i64 (-1)] w fun e w' => e = .returned (.tuple #[.int .i64 a, .int .i64 b]) ∧ Below w.heap.size w w' := by
  have dy := dayB_in h1 h2
  go_enter Tryd.func49, Tryd.ntmps49
  go_wp2_with fail
  refine (rday_c _ _).mono ?_; rintro e w' ⟨rfl, rfl⟩
  go_wp2_with fail
  clear dy
  have HB0 : Hid (Below (w.alloc (.cells #[.bool c.o0, .bool c.o1, .bool c.o2, .bool c.o3, .bool c.o4, .bool c.o5, .bool c.o6, .slice c.A c.rs.length c.cR, .slice c.D c.ds.length c.cD] 26)).heap.size (w.alloc (.cells #[.bool c.o0, .bool c.o1, .bool c.o2, .bool c.o3, .bool c.o4, .bool c.o5, .bool c.o6, .slice c.A c.rs.length c.cR, .slice c.D c.ds.length c.cD] 26)) (w.alloc (.cells #[.bool c.o0, .bool c.o1, .bool c.o2, .bool c.o3, .bool c.o4, .bool c.o5, .bool c.o6, .slice c.A c.rs.length c.cR, .slice c.D c.ds.length c.cD] 26))) := Lib.hid (Below.refl _ _)
  go_loopw [9, 10] (fun o i wr => ∃ (k : Nat) (u : Bool), k ≤ 61 ∧ i = .int .i64 k ∧ o = .bool u ∧ Hid (Below (w.alloc (.cells #[.bool c.o0, .bool c.o1, .bool c.o2, .bool c.o3, .bool c.o4, .bool c.o5, .bool c.o6, .slice c.A c.rs.length c.cR, .slice c.D c.ds.length c.cD] 26)).heap.size (w.alloc (.cells #[.bool c.o0, .bool c.o1, .bool c.o2, .bool c.o3, .bool c.o4, .bool c.o5, .bool c.o6, .slice c.A c.rs.length c.cR, .slice c.D c.ds.length c.cD] 26)) wr) ∧ Hid (StepAt c (-1) n a b k u)) (fun _ i _ => 61 - (intOf i).toNat)
  case atStart => exact ⟨0, false, by omega, rfl, rfl, HB0, Lib.hid (by show sk c (-1) (61 - 0) (n + ((0 : Nat) : Int) * (-1)) = (a, b); rw [← hR.out]; simp)⟩
  case round =>
    obtain ⟨k, u, hkk, rfl, rfl, hbr, A⟩ := hrel
    clear HB0
    obtain ⟨hcr, hfr⟩ := bcell hbr.out
    have hzr := hbr.out.size; (try simp at hzr)
    have hBr : Below w.heap.size w wr := (below_one w _).trans (hbr.out.mono (by simp))
    have lt0 : w.heap.size < wr.heap.size := by omega
    by_cases hlt : k < 61
    · have hltz : (k : Int) ≤ 60 := by omega
      obtain ⟨m, hm⟩ : ∃ m, n + (k : Int) * (-1) = m := ⟨_, rfl⟩
      have HM := Lib.hid hm
      have he : Hid ((n + -(k : Int)) = m) := Lib.hid (by omega)
      have hms : Hid (n + ((k + 1 : Nat) : Int) * (-1) = m + (-1)) := Lib.hid (by omega)
      clear hm
      cases u
      · have A2 : Hid (sk c (-1) (60 - k + 1) m = (a, b)) := Lib.hid (by have e := A.out; unfold StepAt at e; rw [show 61 - k = 60 - k + 1 from by omega, HM.out] at e; exact e)
        by_cases hd : 1 ≤ m ∧ m ≤ 3652059
        · have dd := dayB_in hd.1 hd.2
          clear hd
          cases hi : c.is m
          · have HI := Lib.hid hi; clear hi
            have nx : StepAt c (-1) n a b (k + 1) false := by
              show sk c (-1) (61 - (k + 1)) (n + ((k + 1 : Nat) : Int) * (-1)) = (a, b)
              rw [hms.out, ← A2.out, sk_miss dd HI.out, show 61 - (k + 1) = 60 - k from by omega]
            have NX := Lib.hid nx; clear nx
            go_wp2_with fail
            rw [he.out]
            refine (rcalIs_c c _ hk _ (hc.below (by repeat (first | assumption | exact Below.refl _ _ | (with_reducible refine Below.drew ?_) | (with_reducible refine below_drewN' ?_ _) | (with_reducible refine below_al ?_) | ((with_reducible refine below_set ?_ ?_); rotate_left; focus (first | (simp; done) | (simp; omega))))))).mono ?_; rintro e w2 ⟨rfl, hb2⟩
            have hz2 := hb2.size; obtain ⟨hc2, hf2⟩ := bcell hb2; have hB2 := below_step (w := w) hb2 hBr
            rw [HI.out]
            have hnx : Below (w.alloc (.cells #[.bool c.o0, .bool c.o1, .bool c.o2, .bool c.o3, .bool c.o4, .bool c.o5, .bool c.o6, .slice c.A c.rs.length c.cR, .slice c.D c.ds.length c.cD] 26)).heap.size (w.alloc (.cells #[.bool c.o0, .bool c.o1, .bool c.o2, .bool c.o3, .bool c.o4, .bool c.o5, .bool c.o6, .slice c.A c.rs.length c.cR, .slice c.D c.ds.length c.cD] 26)) w2 := hbr.out.trans (hb2.mono hbr.out.size)
            go_wp2_with fail
            refine (rday_c _ _).mono ?_; rintro e w3 ⟨rfl, rfl⟩
            go_wp2_with fail
            go_roundw
            case rel => exact ⟨k + 1, false, by omega, by go_num, rfl, hnx, (show Hid _ from NX.out)⟩
            case measure => simp [intOf]; omega
          · have HI := Lib.hid hi; clear hi
            go_wp2_with fail
            rw [he.out]
            refine (rcalIs_c c _ hk _ (hc.below (by repeat (first | assumption | exact Below.refl _ _ | (with_reducible refine Below.drew ?_) | (with_reducible refine below_drewN' ?_ _) | (with_reducible refine below_al ?_) | ((with_reducible refine below_set ?_ ?_); rotate_left; focus (first | (simp; done) | (simp; omega))))))).mono ?_; rintro e w2 ⟨rfl, hb2⟩
            have hz2 := hb2.size; obtain ⟨hc2, hf2⟩ := bcell hb2; have hB2 := below_step (w := w) hb2 hBr
            rw [HI.out]
            go_wp2_with fail
            go_ret2
            exact ⟨ret_pair (by rw [← A2.out, sk_hit HI.out]), hB2⟩
        · have hd' : m < 1 ∨ 3652059 < m := by omega
          have dd := dayB_out hd'
          have HI : Hid (c.is m = false) := Lib.hid (CalP.is_out hd')
          have nx : StepAt c (-1) n a b (k + 1) true := by
            have e := A2.out; rw [sk_out dd] at e
            refine ⟨e.symm, ?_⟩
            have := HM.out
            first | (rw [if_pos rfl]; omega) | (rw [if_neg (by decide)]; omega)
          have NX := Lib.hid nx; clear nx hd hd'
          go_wp2_with fail
          rw [he.out]
          refine (rcalIs_c c _ hk _ (hc.below (by repeat (first | assumption | exact Below.refl _ _ | (with_reducible refine Below.drew ?_) | (with_reducible refine below_drewN' ?_ _) | (with_reducible refine below_al ?_) | ((with_reducible refine below_set ?_ ?_); rotate_left; focus (first | (simp; done) | (simp; omega))))))).mono ?_; rintro e w2 ⟨rfl, hb2⟩
          have hz2 := hb2.size; obtain ⟨hc2, hf2⟩ := bcell hb2; have hB2 := below_step (w := w) hb2 hBr
          rw [HI.out]
          have hnx : Below (w.alloc (.cells #[.bool c.o0, .bool c.o1, .bool c.o2, .bool c.o3, .bool c.o4, .bool c.o5, .bool c.o6, .slice c.A c.rs.length c.cR, .slice c.D c.ds.length c.cD] 26)).heap.size (w.alloc (.cells #[.bool c.o0, .bool c.o1, .bool c.o2, .bool c.o3, .bool c.o4, .bool c.o5, .bool c.o6, .slice c.A c.rs.length c.cR, .slice c.D c.ds.length c.cD] 26)) w2 := hbr.out.trans (hb2.mono hbr.out.size)
          go_wp2_with fail
          refine (rday_c _ _).mono ?_; rintro e w3 ⟨rfl, rfl⟩
          go_wp2_with fail
          go_roundw
          case rel => exact ⟨k + 1, true, by omega, by go_num, rfl, hnx, (show Hid _ from NX.out)⟩
          case measure => simp [intOf]; omega
      · have hd' : m < 1 ∨ 3652059 < m := by have e := A.out.2; have := HM.out; first | (rw [if_pos rfl] at e; omega) | (rw [if_neg (by decide)] at e; omega)
        have dd := dayB_out hd'
        have HI : Hid (c.is m = false) := Lib.hid (CalP.is_out hd')
        have nx : StepAt c (-1) n a b (k + 1) true := by
          refine ⟨A.out.1, ?_⟩
          have e := A.out.2
          first | (rw [if_pos rfl] at e ⊢; omega) | (rw [if_neg (by decide)] at e ⊢; omega)
        have NX := Lib.hid nx; clear nx hd'
        go_wp2_with fail
        rw [he.out]
        refine (rcalIs_c c _ hk _ (hc.below (by repeat (first | assumption | exact Below.refl _ _ | (with_reducible refine Below.drew ?_) | (with_reducible refine below_drewN' ?_ _) | (with_reducible refine below_al ?_) | ((with_reducible refine below_set ?_ ?_); rotate_left; focus (first | (simp; done) | (simp; omega))))))).mono ?_; rintro e w2 ⟨rfl, hb2⟩
        have hz2 := hb2.size; obtain ⟨hc2, hf2⟩ := bcell hb2; have hB2 := below_step (w := w) hb2 hBr
        rw [HI.out]
        have hnx : Below (w.alloc (.cells #[.bool c.o0, .bool c.o1, .bool c.o2, .bool c.o3, .bool c.o4, .bool c.o5, .bool c.o6, .slice c.A c.rs.length c.cR, .slice c.D c.ds.length c.cD] 26)).heap.size (w.alloc (.cells #[.bool c.o0, .bool c.o1, .bool c.o2, .bool c.o3, .bool c.o4, .bool c.o5, .bool c.o6, .slice c.A c.rs.length c.cR, .slice c.D c.ds.length c.cD] 26)) w2 := hbr.out.trans (hb2.mono hbr.out.size)
        go_wp2_with fail
        refine (rday_c _ _).mono ?_; rintro e w3 ⟨rfl, rfl⟩
        go_wp2_with fail
        go_roundw
        case rel => exact ⟨k + 1, true, by omega, by go_num, rfl, hnx, (show Hid _ from NX.out)⟩
        case measure => simp [intOf]; omega
    · obtain rfl : k = 61 := by omega
      cases u
      · go_wp2_with fail
        go_ret2
        exact ⟨ret_pair (by have e := A.out; unfold StepAt at e; rw [← e]; rfl), hBr⟩
      · go_wp2_with fail
        go_ret2
        exact ⟨ret_pair A.out.1.symm, hBr⟩
theorem rstep_up (c : CalP) (n : Int) (hk : CalOk c) (a b : Int) (hR : Hid (sk c 1 61 n = (a, b))) (w : World) (hc : CalIn w c) : Calls Tryd.prog 49 #[.agg #[.bool c.o0, .bool c.o1, .bool c.o2, .bool c.o3, .bool c.o4, .bool c.o5, .bool c.o6, .slice c.A c.rs.length c.cR, .slice c.D c.ds.length c.cD], .int .i64 n, .int .i64 1] w fun e w' => e = .returned (.tuple #[.int .i64 a, .int .i64 b]) ∧ Below w.heap.size w w' := by
  by_cases h : 1 ≤ n ∧ n ≤ 3652059
  · exact rstep_up_in c n h.1 h.2 hk a b hR w hc
  · have e := hR.out
    rw [sk_no c 1 (show n < 1 ∨ 3652059 < n by omega)] at e
    cases e
    exact rstep_up_out c n (dayB_out (by omega)) w
theorem rnext_c (c : CalP) (n : Int) (hk : CalOk c) (a b : Int) (hR : Hid (sk c 1 61 n = (a, b))) (w : World) (hc : CalIn w c) : Calls Tryd.prog 23 #[.agg #[.bool c.o0, .bool c.o1, .bool c.o2, .bool c.o3, .bool c.o4, .bool c.o5, .bool c.o6, .slice c.A c.rs.length c.cR, .slice c.D c.ds.length c.cD], .int .i64 n] w fun e w' => e = .returned (.tuple #[.int .i64 a, .int .i64 b]) ∧ Below w.heap.size w w' := by
  have hB : Below w.heap.size w w := Below.refl _ _
  go_enter Tryd.func23, Tryd.ntmps23
  go_wp2_with fail
  refine (rstep_up c _ hk _ _ hR _ (hc.below (by repeat (first | assumption | exact Below.refl _ _ | (with_reducible refine Below.drew ?_) | (with_reducible refine below_drewN' ?_ _) | (with_reducible refine below_al ?_) | ((with_reducible refine below_set ?_ ?_); rotate_left; focus (first | (simp; done) | (simp; omega))))))).mono ?_; rintro e w1 ⟨rfl, hb1⟩
  have hz1 := hb1.size; (try simp at hz1); obtain ⟨hc1, hf1⟩ := bcell hb1; have hB1 := below_step (w := w) hb1 (by repeat (first | assumption | exact Below.refl _ _ | (with_reducible refine Below.drew ?_) | (with_reducible refine below_drewN' ?_ _) | (with_reducible refine below_al ?_) | ((with_reducible refine below_set ?_ ?_); rotate_left; focus (first | (simp; done) | (simp; omega)))))
  have le_w_w1 : w.heap.size ≤ w1.heap.size := by omega
  try have lt_w_w1 : w.heap.size < w1.heap.size := by omega
  go_wp2_with fail
  go_ret2
  exact ⟨rfl, by repeat (first | assumption | exact Below.refl _ _ | (with_reducible refine Below.drew ?_) | (with_reducible refine below_drewN' ?_ _) | (with_reducible refine below_al ?_) | ((with_reducible refine below_set ?_ ?_); rotate_left; focus (first | (simp; done) | (simp; omega))))⟩
theorem rstep_dn (c : CalP) (n : Int) (hk : CalOk c) (a b : Int) (hR : Hid (sk c (-1) 61 n = (a, b))) (w : World) (hc : CalIn w c) : Calls Tryd.prog 49 #[.agg #[.bool c.o0, .bool c.o1, .bool c.o2, .bool c.o3, .bool c.o4, .bool c.o5, .bool c.o6, .slice c.A c.rs.length c.cR, .slice c.D c.ds.length c.cD], .int .i64 n, .int .i64 (-1)] w fun e w' => e = .returned (.tuple #[.int .i64 a, .int .i64 b]) ∧ Below w.heap.size w w' := by
  by_cases h : 1 ≤ n ∧ n ≤ 3652059
  · exact rstep_dn_in c n h.1 h.2 hk a b hR w hc
  · have e := hR.out
    rw [sk_no c (-1) (show n < 1 ∨ 3652059 < n by omega)] at e
    cases e
    exact rstep_dn_out c n (dayB_out (by omega)) w
theorem rprev_c (c : CalP) (n : Int) (hk : CalOk c) (a b : Int) (hR : Hid (sk c (-1) 61 n = (a, b))) (w : World) (hc : CalIn w c) : Calls Tryd.prog 25 #[.agg #[.bool c.o0, .bool c.o1, .bool c.o2, .bool c.o3, .bool c.o4, .bool c.o5, .bool c.o6, .slice c.A c.rs.length c.cR, .slice c.D c.ds.length c.cD], .int .i64 n] w fun e w' => e = .returned (.tuple #[.int .i64 a, .int .i64 b]) ∧ Below w.heap.size w w' := by
  have hB : Below w.heap.size w w := Below.refl _ _
  go_enter Tryd.func25, Tryd.ntmps25
  go_wp2_with fail
  refine (rstep_dn c _ hk _ _ hR _ (hc.below (by repeat (first | assumption | exact Below.refl _ _ | (with_reducible refine Below.drew ?_) | (with_reducible refine below_drewN' ?_ _) | (with_reducible refine below_al ?_) | ((with_reducible refine below_set ?_ ?_); rotate_left; focus (first | (simp; done) | (simp; omega))))))).mono ?_; rintro e w1 ⟨rfl, hb1⟩
  have hz1 := hb1.size; (try simp at hz1); obtain ⟨hc1, hf1⟩ := bcell hb1; have hB1 := below_step (w := w) hb1 (by repeat (first | assumption | exact Below.refl _ _ | (with_reducible refine Below.drew ?_) | (with_reducible refine below_drewN' ?_ _) | (with_reducible refine below_al ?_) | ((with_reducible refine below_set ?_ ?_); rotate_left; focus (first | (simp; done) | (simp; omega)))))
  have le_w_w1 : w.heap.size ≤ w1.heap.size := by omega
  try have lt_w_w1 : w.heap.size < w1.heap.size := by omega
  go_wp2_with fail
  go_ret2
  exact ⟨rfl, by repeat (first | assumption | exact Below.refl _ _ | (with_reducible refine Below.drew ?_) | (with_reducible refine below_drewN' ?_ _) | (with_reducible refine below_al ?_) | ((with_reducible refine below_set ?_ ?_); rotate_left; focus (first | (simp; done) | (simp; omega))))⟩
end Go.Proofs.YtlilffoflkkbdaaDoor
