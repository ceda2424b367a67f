/- The contract of the walk through a calendar, a day a step, the program's. Conditions: the table of months' lengths lies as the program's text lays it; rules may be, and days rise. -/
import Derived.Test.YtlilffoflkkbdaaDoorCalE
namespace Go.Proofs.YtlilffoflkkbdaaDoor
open Go.RowKit
set_option linter.unusedVariables false
/-- The first day of business from a day on, by so many steps at most. -/
def sk (c : CalP) (s : Int) : Nat → Int → Int × Int
  | 0, _ => (0, 8)
  | r + 1, m => if dayB m = true then (if c.is m = true then (m, 0) else sk c s r (m + s)) else (0, 3)
theorem sk_out {c : CalP} {s : Int} {r : Nat} {m : Int} (h : dayB m = false) : sk c s (r + 1) m = (0, 3) := by rw [sk, if_neg (by rw [h]; decide)]
theorem sk_hit {c : CalP} {s : Int} {r : Nat} {m : Int} (h : c.is m = true) : sk c s (r + 1) m = (m, 0) := by
  have d := CalP.is_day h
  rw [sk, if_pos (dayB_in d.1 d.2), if_pos h]
theorem sk_miss {c : CalP} {s : Int} {r : Nat} {m : Int} (hd : dayB m = true) (h : c.is m = false) : sk c s (r + 1) m = sk c s r (m + s) := by
  rw [sk, if_pos hd, if_neg (by rw [h]; decide)]
theorem below_al_up {B : Nat} {w w' : World} {o : Obj} (hb : Below (w.alloc o).heap.size (w.alloc o) w') (h : B ≤ w.heap.size) : Below B w w' :=
  ((Below.refl _ _).alloc h o).trans (hb.mono (by simp; omega))

theorem ret_pair {a b c d : Int} (h : (a, b) = (c, d)) : Ending.returned (.tuple #[.int .i64 a, .int .i64 b]) = .returned (.tuple #[.int .i64 c, .int .i64 d]) := by
  cases h; rfl
set_option maxHeartbeats 2000000 in
theorem from_up_out (c : CalP) (n : Int) (h : Hid (n < 1 ∨ 3652059 < n)) (b1 : -9223372036854775808 ≤ n) (b2 : n ≤ 9223372036854775807) (w : World) (hL : Laid w) : Calls Tryd.prog 45 #[.agg #[.bool c.o0, .bool c.o1, .bool c.o2, .bool c.o3, .bool c.o4, .bool c.o5, .bool c.o6, .slice c.A c.rs.length c.cR, .slice c.D c.ds.length c.cD, .int .i64 1], .int .i64 n] w fun e w' => e = .returned (.tuple #[.int .i64 0, .int .i64 3]) ∧ Below w.heap.size w w' := by
  have hB : Below w.heap.size w w := Below.refl _ _
  go_enter Tryd.func45, Tryd.ntmps45
  go_wp2_with fail
  refine wp_loop_rounds 1 ?_
  rw [rounds_succ]
  go_wp2_with fail
  refine (of_no _ _ h.out).mono ?_; rintro e w1 ⟨rfl, hb1⟩
  have hz1 := hb1.size; (try simp at hz1); obtain ⟨hc1, hf1⟩ := bcell hb1; have hB1 := below_step (w := w) hb1 (by repeat (first | assumption | exact Below.refl _ _ | (with_reducible refine Below.drew ?_) | (with_reducible refine below_drewN' ?_ _) | (with_reducible refine below_al ?_) | ((with_reducible refine below_set ?_ ?_); rotate_left; focus (first | (simp; done) | (simp; omega)))))
  have le_w_w1 : w.heap.size ≤ w1.heap.size := by omega
  try have lt_w_w1 : w.heap.size < w1.heap.size := by omega
  go_wp2_with fail
  go_ret2
  exact ⟨rfl, by repeat (first | assumption | exact Below.refl _ _ | (with_reducible refine Below.drew ?_) | (with_reducible refine below_drewN' ?_ _) | (with_reducible refine below_al ?_) | ((with_reducible refine below_set ?_ ?_); rotate_left; focus (first | (simp; done) | (simp; omega))))⟩
set_option maxHeartbeats 4000000 in
theorem from_up_in (c : CalP) (n : Int) (h1 : 1 ≤ n) (h2 : n ≤ 3652059) (hk : CalOk c) (a b : Int) (hR : Hid (sk c 1 61 n = (a, b))) (w : World) (hL : Laid w) (hc : CalIn w c) : Calls Tryd.prog 45 #[.agg #[.bool c.o0, .bool c.o1, .bool c.o2, .bool c.o3, .bool c.o4, .bool c.o5, .bool c.o6, .slice c.A c.rs.length c.cR, .slice c.D c.ds.length c.cD, .int .i64 1], .int .i64 n] w fun e w' => e = .returned (.tuple #[.int .i64 a, .int .i64 b]) ∧ Below w.heap.size w w' := by
  go_enter Tryd.func45, Tryd.ntmps45
  go_wp2_with fail
  have HB0 : Hid (Below (w.alloc (.cells #[.bool c.o0, .bool c.o1, .bool c.o2, .bool c.o3, .bool c.o4, .bool c.o5, .bool c.o6, .slice c.A c.rs.length c.cR, .slice c.D c.ds.length c.cD, .int .i64 1] 83)).heap.size (w.alloc (.cells #[.bool c.o0, .bool c.o1, .bool c.o2, .bool c.o3, .bool c.o4, .bool c.o5, .bool c.o6, .slice c.A c.rs.length c.cR, .slice c.D c.ds.length c.cD, .int .i64 1] 83)) (w.alloc (.cells #[.bool c.o0, .bool c.o1, .bool c.o2, .bool c.o3, .bool c.o4, .bool c.o5, .bool c.o6, .slice c.A c.rs.length c.cR, .slice c.D c.ds.length c.cD, .int .i64 1] 83))) := Lib.hid (Below.refl _ _)
  go_loopw [6] (fun i wr => ∃ k : Nat, k ≤ 61 ∧ i = .int .i64 k ∧ Hid (Below (w.alloc (.cells #[.bool c.o0, .bool c.o1, .bool c.o2, .bool c.o3, .bool c.o4, .bool c.o5, .bool c.o6, .slice c.A c.rs.length c.cR, .slice c.D c.ds.length c.cD, .int .i64 1] 83)).heap.size (w.alloc (.cells #[.bool c.o0, .bool c.o1, .bool c.o2, .bool c.o3, .bool c.o4, .bool c.o5, .bool c.o6, .slice c.A c.rs.length c.cR, .slice c.D c.ds.length c.cD, .int .i64 1] 83)) wr) ∧ Hid (sk c 1 (61 - k) (n + k * 1) = (a, b))) (fun i _ => 61 - (intOf i).toNat)
  case atStart => exact ⟨0, by omega, rfl, HB0, Lib.hid (by rw [← hR.out]; simp)⟩
  case round =>
    obtain ⟨k, hkk, rfl, hbr, A⟩ := hrel
    clear HB0
    obtain ⟨hcr, hfr⟩ := bcell hbr.out
    have hzr := hbr.out.size; (try simp at hzr)
    have hBr : Below w.heap.size w wr := (below_one w _).trans (hbr.out.mono (by simp))
    have lt0 : w.heap.size < wr.heap.size := by omega
    by_cases hlt : k < 61
    · have hltz : (k : Int) ≤ 60 := by omega
      have A2 : Hid (sk c 1 (60 - k + 1) (n + k * 1) = (a, b)) := Lib.hid (by rw [← A.out, show 61 - k = 60 - k + 1 from by omega])
      obtain ⟨m, hm⟩ : ∃ m, n + (k : Int) * 1 = m := ⟨_, rfl⟩
      rw [hm] at A2
      have HM := Lib.hid hm
      have he : Hid ((n + (k : Int)) = m) := Lib.hid (by omega)
      clear hm
      by_cases hd : 1 ≤ m ∧ m ≤ 3652059
      · obtain ⟨d1, d2⟩ := hd
        cases hi : c.is m
        · have HI := Lib.hid hi; clear hi
          go_wp2_with fail
          rw [he.out]
          refine (of_yes _ _ (hL.below (by repeat (first | assumption | exact Below.refl _ _ | (with_reducible refine Below.drew ?_) | (with_reducible refine below_drewN' ?_ _) | (with_reducible refine below_al ?_) | ((with_reducible refine below_set ?_ ?_); rotate_left; focus (first | (simp; done) | (simp; omega)))))) d1 d2).mono ?_; rintro e w1 ⟨rfl, hb1⟩
          have hz1 := hb1.size; obtain ⟨hc1, hf1⟩ := bcell hb1; have hB1 := below_step (w := w) hb1 hBr
          have lt1 : w.heap.size < w1.heap.size := by omega
          have le1 : w.heap.size ≤ w1.heap.size := by omega
          go_wp2_with fail
          refine (calIs_c c _ hk _ (hL.below (by repeat (first | assumption | exact Below.refl _ _ | (with_reducible refine Below.drew ?_) | (with_reducible refine below_drewN' ?_ _) | (with_reducible refine below_al ?_) | ((with_reducible refine below_set ?_ ?_); rotate_left; focus (first | (simp; done) | (simp; omega)))))) (hc.below (by repeat (first | assumption | exact Below.refl _ _ | (with_reducible refine Below.drew ?_) | (with_reducible refine below_drewN' ?_ _) | (with_reducible refine below_al ?_) | ((with_reducible refine below_set ?_ ?_); rotate_left; focus (first | (simp; done) | (simp; omega))))))).mono ?_; rintro e w2 ⟨rfl, hb2⟩
          have hz2 := hb2.size; (try simp at hz2); have hB2 := below_step (w := w) hb2 (by repeat (first | assumption | exact Below.refl _ _ | (with_reducible refine Below.drew ?_) | (with_reducible refine below_drewN' ?_ _) | (with_reducible refine below_al ?_) | ((with_reducible refine below_set ?_ ?_); rotate_left; focus (first | (simp; done) | (simp; omega)))))
          rw [HI.out]
          have hnx : Below (w.alloc (.cells #[.bool c.o0, .bool c.o1, .bool c.o2, .bool c.o3, .bool c.o4, .bool c.o5, .bool c.o6, .slice c.A c.rs.length c.cR, .slice c.D c.ds.length c.cD, .int .i64 1] 83)).heap.size (w.alloc (.cells #[.bool c.o0, .bool c.o1, .bool c.o2, .bool c.o3, .bool c.o4, .bool c.o5, .bool c.o6, .slice c.A c.rs.length c.cR, .slice c.D c.ds.length c.cD, .int .i64 1] 83)) w2 := hbr.out.trans ((hb1.mono hbr.out.size).trans (below_al_up hb2 (Nat.le_trans hbr.out.size hb1.size)))
          go_wp2_with fail
          go_roundw
          case rel =>
            refine ⟨k + 1, by omega, by go_num, hnx, (show Hid _ from ?_)⟩
            have e := A2.out
            rw [sk_miss (dayB_in d1 d2) HI.out] at e
            rw [show 61 - (k + 1) = 60 - k from by omega, ← e]
            congr 1; have := HM.out; omega
          case measure => simp [intOf]; omega
        · have HI := Lib.hid hi; clear hi
          go_wp2_with fail
          rw [he.out]
          refine (of_yes _ _ (hL.below (by repeat (first | assumption | exact Below.refl _ _ | (with_reducible refine Below.drew ?_) | (with_reducible refine below_drewN' ?_ _) | (with_reducible refine below_al ?_) | ((with_reducible refine below_set ?_ ?_); rotate_left; focus (first | (simp; done) | (simp; omega)))))) d1 d2).mono ?_; rintro e w1 ⟨rfl, hb1⟩
          have hz1 := hb1.size; obtain ⟨hc1, hf1⟩ := bcell hb1; have hB1 := below_step (w := w) hb1 hBr
          have lt1 : w.heap.size < w1.heap.size := by omega
          have le1 : w.heap.size ≤ w1.heap.size := by omega
          go_wp2_with fail
          refine (calIs_c c _ hk _ (hL.below (by repeat (first | assumption | exact Below.refl _ _ | (with_reducible refine Below.drew ?_) | (with_reducible refine below_drewN' ?_ _) | (with_reducible refine below_al ?_) | ((with_reducible refine below_set ?_ ?_); rotate_left; focus (first | (simp; done) | (simp; omega)))))) (hc.below (by repeat (first | assumption | exact Below.refl _ _ | (with_reducible refine Below.drew ?_) | (with_reducible refine below_drewN' ?_ _) | (with_reducible refine below_al ?_) | ((with_reducible refine below_set ?_ ?_); rotate_left; focus (first | (simp; done) | (simp; omega))))))).mono ?_; rintro e w2 ⟨rfl, hb2⟩
          have hz2 := hb2.size; (try simp at hz2); have hB2 := below_step (w := w) hb2 (by repeat (first | assumption | exact Below.refl _ _ | (with_reducible refine Below.drew ?_) | (with_reducible refine below_drewN' ?_ _) | (with_reducible refine below_al ?_) | ((with_reducible refine below_set ?_ ?_); rotate_left; focus (first | (simp; done) | (simp; omega)))))
          rw [HI.out]
          go_wp2_with fail
          go_ret2
          exact ⟨ret_pair (by rw [← A2.out, sk_hit HI.out]), hB2⟩
      · have hd' : Hid (m < 1 ∨ 3652059 < m) := Lib.hid (by omega)
        clear hd
        go_wp2_with fail
        rw [he.out]
        refine (of_no _ _ hd'.out).mono ?_; rintro e w1 ⟨rfl, hb1⟩
        have hz1 := hb1.size; obtain ⟨hc1, hf1⟩ := bcell hb1; have hB1 := below_step (w := w) hb1 hBr
        go_wp2_with fail
        go_ret2
        exact ⟨ret_pair (by rw [← A2.out, sk_out (dayB_out hd'.out)]), by repeat (first | assumption | exact Below.refl _ _ | (with_reducible refine Below.drew ?_) | (with_reducible refine below_drewN' ?_ _) | (with_reducible refine below_al ?_) | ((with_reducible refine below_set ?_ ?_); rotate_left; focus (first | (simp; done) | (simp; omega))))⟩
    · obtain rfl : k = 61 := by omega
      go_wp2_with fail
      go_ret2
      exact ⟨ret_pair (by rw [← A.out]; rfl), hBr⟩
set_option maxHeartbeats 2000000 in
theorem from_dn_out (c : CalP) (n : Int) (h : Hid (n < 1 ∨ 3652059 < n)) (b1 : -9223372036854775808 ≤ n) (b2 : n ≤ 9223372036854775807) (w : World) (hL : Laid w) : Calls Tryd.prog 45 #[.agg #[.bool c.o0, .bool c.o1, .bool c.o2, .bool c.o3, .bool c.o4, .bool c.o5, .bool c.o6, .slice c.A c.rs.length c.cR, .slice c.D c.ds.length c.cD, .int .i64 (-1)], .int .i64 n] w fun e w' => e = .returned (.tuple #[.int .i64 0, .int .i64 3]) ∧ Below w.heap.size w w' := by
  have hB : Below w.heap.size w w := Below.refl _ _
  go_enter Tryd.func45, Tryd.ntmps45
  go_wp2_with fail
  refine wp_loop_rounds 1 ?_
  rw [rounds_succ]
  go_wp2_with fail
  refine (of_no _ _ h.out).mono ?_; rintro e w1 ⟨rfl, hb1⟩
  have hz1 := hb1.size; (try simp at hz1); obtain ⟨hc1, hf1⟩ := bcell hb1; have hB1 := below_step (w := w) hb1 (by repeat (first | assumption | exact Below.refl _ _ | (with_reducible refine Below.drew ?_) | (with_reducible refine below_drewN' ?_ _) | (with_reducible refine below_al ?_) | ((with_reducible refine below_set ?_ ?_); rotate_left; focus (first | (simp; done) | (simp; omega)))))
  have le_w_w1 : w.heap.size ≤ w1.heap.size := by omega
  try have lt_w_w1 : w.heap.size < w1.heap.size := by omega
  go_wp2_with fail
  go_ret2
  exact ⟨rfl, by repeat (first | assumption | exact Below.refl _ _ | (with_reducible refine Below.drew ?_) | (with_reducible refine below_drewN' ?_ _) | (with_reducible refine below_al ?_) | ((with_reducible refine below_set ?_ ?_); rotate_left; focus (first | (simp; done) | (simp; omega))))⟩
set_option maxHeartbeats 4000000 in
theorem from_dn_in (c : CalP) (n : Int) (h1 : 1 ≤ n) (h2 : n ≤ 3652059) (hk : CalOk c) (a b : Int) (hR : Hid (sk c (-1) 61 n = (a, b))) (w : World) (hL : Laid w) (hc : CalIn w c) : Calls Tryd.prog 45 #[.agg #[.bool c.o0, .bool c.o1, .bool c.o2, .bool c.o3, .bool c.o4, .bool c.o5, .bool c.o6, .slice c.A c.rs.length c.cR, .slice c.D c.ds.length c.cD, .int .i64 (-1)], .int .i64 n] w fun e w' => e = .returned (.tuple #[.int .i64 a, .int .i64 b]) ∧ Below w.heap.size w w' := by
  go_enter Tryd.func45, Tryd.ntmps45
  go_wp2_with fail
  have HB0 : Hid (Below (w.alloc (.cells #[.bool c.o0, .bool c.o1, .bool c.o2, .bool c.o3, .bool c.o4, .bool c.o5, .bool c.o6, .slice c.A c.rs.length c.cR, .slice c.D c.ds.length c.cD, .int .i64 (-1)] 83)).heap.size (w.alloc (.cells #[.bool c.o0, .bool c.o1, .bool c.o2, .bool c.o3, .bool c.o4, .bool c.o5, .bool c.o6, .slice c.A c.rs.length c.cR, .slice c.D c.ds.length c.cD, .int .i64 (-1)] 83)) (w.alloc (.cells #[.bool c.o0, .bool c.o1, .bool c.o2, .bool c.o3, .bool c.o4, .bool c.o5, .bool c.o6, .slice c.A c.rs.length c.cR, .slice c.D c.ds.length c.cD, .int .i64 (-1)] 83))) := Lib.hid (Below.refl _ _)
  go_loopw [6] (fun i wr => ∃ k : Nat, k ≤ 61 ∧ i = .int .i64 k ∧ Hid (Below (w.alloc (.cells #[.bool c.o0, .bool c.o1, .bool c.o2, .bool c.o3, .bool c.o4, .bool c.o5, .bool c.o6, .slice c.A c.rs.length c.cR, .slice c.D c.ds.length c.cD, .int .i64 (-1)] 83)).heap.size (w.alloc (.cells #[.bool c.o0, .bool c.o1, .bool c.o2, .bool c.o3, .bool c.o4, .bool c.o5, .bool c.o6, .slice c.A c.rs.length c.cR, .slice c.D c.ds.length c.cD, .int .i64 (-1)] 83)) wr) ∧ Hid (sk c (-1) (61 - k) (n + k * (-1)) = (a, b))) (fun i _ => 61 - (intOf i).toNat)
  case atStart => exact ⟨0, by omega, rfl, HB0, Lib.hid (by rw [← hR.out]; simp)⟩
  case round =>
    obtain ⟨k, hkk, rfl, hbr, A⟩ := hrel
    clear HB0
    obtain ⟨hcr, hfr⟩ := bcell hbr.out
    have hzr := hbr.out.size; (try simp at hzr)
    have hBr : Below w.heap.size w wr := (below_one w _).trans (hbr.out.mono (by simp))
    have lt0 : w.heap.size < wr.heap.size := by omega
    by_cases hlt : k < 61
    · have hltz : (k : Int) ≤ 60 := by omega
      have A2 : Hid (sk c (-1) (60 - k + 1) (n + k * (-1)) = (a, b)) := Lib.hid (by rw [← A.out, show 61 - k = 60 - k + 1 from by omega])
      obtain ⟨m, hm⟩ : ∃ m, n + (k : Int) * (-1) = m := ⟨_, rfl⟩
      rw [hm] at A2
      have HM := Lib.hid hm
      have he : Hid ((n + -(k : Int)) = m) := Lib.hid (by omega)
      clear hm
      by_cases hd : 1 ≤ m ∧ m ≤ 3652059
      · obtain ⟨d1, d2⟩ := hd
        cases hi : c.is m
        · have HI := Lib.hid hi; clear hi
          go_wp2_with fail
          rw [he.out]
          refine (of_yes _ _ (hL.below (by repeat (first | assumption | exact Below.refl _ _ | (with_reducible refine Below.drew ?_) | (with_reducible refine below_drewN' ?_ _) | (with_reducible refine below_al ?_) | ((with_reducible refine below_set ?_ ?_); rotate_left; focus (first | (simp; done) | (simp; omega)))))) d1 d2).mono ?_; rintro e w1 ⟨rfl, hb1⟩
          have hz1 := hb1.size; obtain ⟨hc1, hf1⟩ := bcell hb1; have hB1 := below_step (w := w) hb1 hBr
          have lt1 : w.heap.size < w1.heap.size := by omega
          have le1 : w.heap.size ≤ w1.heap.size := by omega
          go_wp2_with fail
          refine (calIs_c c _ hk _ (hL.below (by repeat (first | assumption | exact Below.refl _ _ | (with_reducible refine Below.drew ?_) | (with_reducible refine below_drewN' ?_ _) | (with_reducible refine below_al ?_) | ((with_reducible refine below_set ?_ ?_); rotate_left; focus (first | (simp; done) | (simp; omega)))))) (hc.below (by repeat (first | assumption | exact Below.refl _ _ | (with_reducible refine Below.drew ?_) | (with_reducible refine below_drewN' ?_ _) | (with_reducible refine below_al ?_) | ((with_reducible refine below_set ?_ ?_); rotate_left; focus (first | (simp; done) | (simp; omega))))))).mono ?_; rintro e w2 ⟨rfl, hb2⟩
          have hz2 := hb2.size; (try simp at hz2); have hB2 := below_step (w := w) hb2 (by repeat (first | assumption | exact Below.refl _ _ | (with_reducible refine Below.drew ?_) | (with_reducible refine below_drewN' ?_ _) | (with_reducible refine below_al ?_) | ((with_reducible refine below_set ?_ ?_); rotate_left; focus (first | (simp; done) | (simp; omega)))))
          rw [HI.out]
          have hnx : Below (w.alloc (.cells #[.bool c.o0, .bool c.o1, .bool c.o2, .bool c.o3, .bool c.o4, .bool c.o5, .bool c.o6, .slice c.A c.rs.length c.cR, .slice c.D c.ds.length c.cD, .int .i64 (-1)] 83)).heap.size (w.alloc (.cells #[.bool c.o0, .bool c.o1, .bool c.o2, .bool c.o3, .bool c.o4, .bool c.o5, .bool c.o6, .slice c.A c.rs.length c.cR, .slice c.D c.ds.length c.cD, .int .i64 (-1)] 83)) w2 := hbr.out.trans ((hb1.mono hbr.out.size).trans (below_al_up hb2 (Nat.le_trans hbr.out.size hb1.size)))
          go_wp2_with fail
          go_roundw
          case rel =>
            refine ⟨k + 1, by omega, by go_num, hnx, (show Hid _ from ?_)⟩
            have e := A2.out
            rw [sk_miss (dayB_in d1 d2) HI.out] at e
            rw [show 61 - (k + 1) = 60 - k from by omega, ← e]
            congr 1; have := HM.out; omega
          case measure => simp [intOf]; omega
        · have HI := Lib.hid hi; clear hi
          go_wp2_with fail
          rw [he.out]
          refine (of_yes _ _ (hL.below (by repeat (first | assumption | exact Below.refl _ _ | (with_reducible refine Below.drew ?_) | (with_reducible refine below_drewN' ?_ _) | (with_reducible refine below_al ?_) | ((with_reducible refine below_set ?_ ?_); rotate_left; focus (first | (simp; done) | (simp; omega)))))) d1 d2).mono ?_; rintro e w1 ⟨rfl, hb1⟩
          have hz1 := hb1.size; obtain ⟨hc1, hf1⟩ := bcell hb1; have hB1 := below_step (w := w) hb1 hBr
          have lt1 : w.heap.size < w1.heap.size := by omega
          have le1 : w.heap.size ≤ w1.heap.size := by omega
          go_wp2_with fail
          refine (calIs_c c _ hk _ (hL.below (by repeat (first | assumption | exact Below.refl _ _ | (with_reducible refine Below.drew ?_) | (with_reducible refine below_drewN' ?_ _) | (with_reducible refine below_al ?_) | ((with_reducible refine below_set ?_ ?_); rotate_left; focus (first | (simp; done) | (simp; omega)))))) (hc.below (by repeat (first | assumption | exact Below.refl _ _ | (with_reducible refine Below.drew ?_) | (with_reducible refine below_drewN' ?_ _) | (with_reducible refine below_al ?_) | ((with_reducible refine below_set ?_ ?_); rotate_left; focus (first | (simp; done) | (simp; omega))))))).mono ?_; rintro e w2 ⟨rfl, hb2⟩
          have hz2 := hb2.size; (try simp at hz2); have hB2 := below_step (w := w) hb2 (by repeat (first | assumption | exact Below.refl _ _ | (with_reducible refine Below.drew ?_) | (with_reducible refine below_drewN' ?_ _) | (with_reducible refine below_al ?_) | ((with_reducible refine below_set ?_ ?_); rotate_left; focus (first | (simp; done) | (simp; omega)))))
          rw [HI.out]
          go_wp2_with fail
          go_ret2
          exact ⟨ret_pair (by rw [← A2.out, sk_hit HI.out]), hB2⟩
      · have hd' : Hid (m < 1 ∨ 3652059 < m) := Lib.hid (by omega)
        clear hd
        go_wp2_with fail
        rw [he.out]
        refine (of_no _ _ hd'.out).mono ?_; rintro e w1 ⟨rfl, hb1⟩
        have hz1 := hb1.size; obtain ⟨hc1, hf1⟩ := bcell hb1; have hB1 := below_step (w := w) hb1 hBr
        go_wp2_with fail
        go_ret2
        exact ⟨ret_pair (by rw [← A2.out, sk_out (dayB_out hd'.out)]), by repeat (first | assumption | exact Below.refl _ _ | (with_reducible refine Below.drew ?_) | (with_reducible refine below_drewN' ?_ _) | (with_reducible refine below_al ?_) | ((with_reducible refine below_set ?_ ?_); rotate_left; focus (first | (simp; done) | (simp; omega))))⟩
    · obtain rfl : k = 61 := by omega
      go_wp2_with fail
      go_ret2
      exact ⟨ret_pair (by rw [← A.out]; rfl), hBr⟩
end Go.Proofs.YtlilffoflkkbdaaDoor
