/- The contracts of calendars, the document's: is it a day of business? Conditions: rules may be. -/
import Derived.Test.YtlilffoflkkbdaaDoorCalB
namespace Go.Proofs.YtlilffoflkkbdaaDoor
open Go.RowKit
set_option linter.unusedVariables false

theorem has_at {l : List Int} {n : Int} (k : Nat) (hk : k < l.length) (h : l.getD k 0 = n) : l.contains n = true := by
  rw [List.contains_iff_mem, ← h, List.getD_eq_getElem?_getD, List.getElem?_eq_getElem hk]; exact List.getElem_mem hk
theorem has_none {l : List Int} {n : Int} (h : ∀ j, j < l.length → l.getD j 0 ≠ n) : l.contains n = false := by
  rw [Bool.eq_false_iff]
  intro hc
  rw [List.contains_iff_mem] at hc
  obtain ⟨i, hi, e⟩ := List.getElem_of_mem hc
  refine h i hi ?_
  rw [List.getD_eq_getElem?_getD, List.getElem?_eq_getElem hi]; exact e

theorem rci_out (c : CalP) (n : Int) (h : Hid (n < 1 ∨ 3652059 < n)) (w : World) : Calls Tryd.prog 31 #[.agg #[.bool c.o0, .bool c.o1, .bool c.o2, .bool c.o3, .bool c.o4, .bool c.o5, .bool c.o6, .slice c.A c.rs.length c.cR, .slice c.D c.ds.length c.cD], .int .i64 n] w fun e w' => e = .returned (.bool false) ∧ Below w.heap.size w w' := by
  have hd := dayB_out h.out
  go_enter Tryd.func31, Tryd.ntmps31
  go_wp2_with fail
  refine (rday_c _ _).mono ?_; rintro e w' ⟨rfl, rfl⟩
  go_wp2_with fail
  go_ret
  exact ⟨rfl, by repeat (first | assumption | exact Below.refl _ _ | (with_reducible refine Below.drew ?_) | (with_reducible refine below_drewN' ?_ _) | (with_reducible refine below_al ?_) | ((with_reducible refine below_set ?_ ?_); rotate_left; focus (first | (simp; done) | (simp; omega))))⟩
theorem rci_off (c : CalP) (n : Int) (h1 : 1 ≤ n) (h2 : n ≤ 3652059) (ho : c.off (Cal.wd n) = true) (w : World) : Calls Tryd.prog 31 #[.agg #[.bool c.o0, .bool c.o1, .bool c.o2, .bool c.o3, .bool c.o4, .bool c.o5, .bool c.o6, .slice c.A c.rs.length c.cR, .slice c.D c.ds.length c.cD], .int .i64 n] w fun e w' => e = .returned (.bool false) ∧ Below w.heap.size w w' := by
  have hd := dayB_in h1 h2
  have hix := off_cell c n
  obtain ⟨b1, b2⟩ := Cal.wd_bd n
  go_enter Tryd.func31, Tryd.ntmps31
  go_wp2_with fail
  refine (rday_c _ _).mono ?_; rintro e w' ⟨rfl, rfl⟩
  go_wp2_with fail
  refine (rwd_c _ _).mono ?_; rintro e w' ⟨rfl, rfl⟩
  go_wp2_with fail
  go_ret
  exact ⟨rfl, by repeat (first | assumption | exact Below.refl _ _ | (with_reducible refine Below.drew ?_) | (with_reducible refine below_drewN' ?_ _) | (with_reducible refine below_al ?_) | ((with_reducible refine below_set ?_ ?_); rotate_left; focus (first | (simp; done) | (simp; omega))))⟩
theorem dcell_box {w : World} {b o k : Nat} {x : Int} {B : Obj} (hb : b < w.heap.size) (h : w.cell? ⟨b, o + k, none⟩ = some (.int .i64 x)) : (w.alloc B).cell? ⟨b, o + k, none⟩ = some (.int .i64 x) := (World.cell?_alloc_lt _ _ _ hb).trans h
set_option maxHeartbeats 4000000 in
theorem rci_00 (c : CalP) (n : Int) (h1 : 1 ≤ n) (h2 : n ≤ 3652059) (ho : c.off (Cal.wd n) = false) (hk : CalOk c) (V : Bool) (hV : Hid ((!c.ds.contains n && !c.rs.any (·.is n)) = V)) (w : World) (hDs : Hid (c.ds = [])) (hR : Hid (c.rs = [])) : Calls Tryd.prog 31 #[.agg #[.bool c.o0, .bool c.o1, .bool c.o2, .bool c.o3, .bool c.o4, .bool c.o5, .bool c.o6, .slice c.A c.rs.length c.cR, .slice c.D c.ds.length c.cD], .int .i64 n] w fun e w' => e = .returned (.bool V) ∧ Below w.heap.size w w' := by
  have hd := dayB_in h1 h2
  have hix := off_cell c n
  obtain ⟨b1, b2⟩ := Cal.wd_bd n
  have hrl := hk.rl; have hdl := hk.dl
  go_enter Tryd.func31, Tryd.ntmps31
  go_wp2_with fail
  refine (rday_c _ _).mono ?_; rintro e w' ⟨rfl, rfl⟩
  go_wp2_with fail
  refine (rwd_c _ _).mono ?_; rintro e w' ⟨rfl, rfl⟩
  go_wp2_with fail
  clear hix hd
  go_loop [6] (fun i => ∃ k : Nat, k ≤ c.ds.length ∧ i = .int .i64 k ∧ Hid (∀ j, j < k → c.ds.getD j 0 ≠ n)) (fun i => c.ds.length - (intOf i).toNat)
  case atStart => exact ⟨0, Nat.zero_le _, rfl, fun j hj => absurd hj (Nat.not_lt_zero _)⟩
  case round =>
    obtain ⟨k, hkk, rfl, A⟩ := hrel
    have hke : k = c.ds.length := by have := hDs.out; rw [this] at hkk ⊢; simp at hkk ⊢; exact hkk
    subst hke
    have HD : Hid (c.ds.contains n = false) := Lib.hid (by rw [hDs.out]; rfl)
    go_wp2_with fail
    have HB0 : Hid (Below (w.alloc (.cells #[.bool c.o0, .bool c.o1, .bool c.o2, .bool c.o3, .bool c.o4, .bool c.o5, .bool c.o6, .slice c.A c.rs.length c.cR, .slice c.D c.ds.length c.cD] 26)).heap.size (w.alloc (.cells #[.bool c.o0, .bool c.o1, .bool c.o2, .bool c.o3, .bool c.o4, .bool c.o5, .bool c.o6, .slice c.A c.rs.length c.cR, .slice c.D c.ds.length c.cD] 26)) (w.alloc (.cells #[.bool c.o0, .bool c.o1, .bool c.o2, .bool c.o3, .bool c.o4, .bool c.o5, .bool c.o6, .slice c.A c.rs.length c.cR, .slice c.D c.ds.length c.cD] 26))) := Lib.hid (Below.refl _ _)
    go_loopw [7] (fun i wr => ∃ k : Nat, k ≤ c.rs.length ∧ i = .int .i64 k ∧ Hid (Below (w.alloc (.cells #[.bool c.o0, .bool c.o1, .bool c.o2, .bool c.o3, .bool c.o4, .bool c.o5, .bool c.o6, .slice c.A c.rs.length c.cR, .slice c.D c.ds.length c.cD] 26)).heap.size (w.alloc (.cells #[.bool c.o0, .bool c.o1, .bool c.o2, .bool c.o3, .bool c.o4, .bool c.o5, .bool c.o6, .slice c.A c.rs.length c.cR, .slice c.D c.ds.length c.cD] 26)) wr) ∧ Hid (∀ j, j < k → (c.rs[j]!).is n = false)) (fun i _ => c.rs.length - (intOf i).toNat)
    case atStart => exact ⟨0, Nat.zero_le _, rfl, HB0, fun j hj => absurd hj (Nat.not_lt_zero _)⟩
    case round =>
      obtain ⟨k, hkk, rfl, hbr, A⟩ := hrel
      obtain ⟨hcr, hfr⟩ := bcell hbr.out
      have hzr := hbr.out.size; (try simp at hzr)
      have hBr : Below w.heap.size w wr := (below_one w _).trans (hbr.out.mono (by simp))
      have hke : k = c.rs.length := by have := hR.out; rw [this] at hkk ⊢; simp at hkk ⊢; exact hkk
      subst hke
      have HA : Hid (c.rs.any (·.is n) = false) := Lib.hid (by rw [hR.out]; rfl)
      go_wp2_with fail
      go_ret
      exact ⟨ret_bool (by rw [← hV.out, HD.out, HA.out]; rfl), hBr⟩
set_option maxHeartbeats 4000000 in
theorem rci_01 (c : CalP) (n : Int) (h1 : 1 ≤ n) (h2 : n ≤ 3652059) (ho : c.off (Cal.wd n) = false) (hk : CalOk c) (V : Bool) (hV : Hid ((!c.ds.contains n && !c.rs.any (·.is n)) = V)) (w : World) (hDs : Hid (c.ds = [])) (rb ro : Nat) (hA : Hid (c.A = some ⟨rb, ro, none⟩)) (hrb : rb < w.heap.size) (hrc : ∀ j, j < c.rs.length → ∀ i v, (c.rs[j]!.enc)[i]? = some v → w.cell? ⟨rb, ro + j * 8 + i, none⟩ = some v) : Calls Tryd.prog 31 #[.agg #[.bool c.o0, .bool c.o1, .bool c.o2, .bool c.o3, .bool c.o4, .bool c.o5, .bool c.o6, .slice c.A c.rs.length c.cR, .slice c.D c.ds.length c.cD], .int .i64 n] w fun e w' => e = .returned (.bool V) ∧ Below w.heap.size w w' := by
  have hd := dayB_in h1 h2
  have hix := off_cell c n
  obtain ⟨b1, b2⟩ := Cal.wd_bd n
  have hrl := hk.rl; have hdl := hk.dl
  go_enter Tryd.func31, Tryd.ntmps31
  go_wp2_with fail
  refine (rday_c _ _).mono ?_; rintro e w' ⟨rfl, rfl⟩
  go_wp2_with fail
  refine (rwd_c _ _).mono ?_; rintro e w' ⟨rfl, rfl⟩
  go_wp2_with fail
  clear hix hd
  rw [hA.out]
  go_loop [6] (fun i => ∃ k : Nat, k ≤ c.ds.length ∧ i = .int .i64 k ∧ Hid (∀ j, j < k → c.ds.getD j 0 ≠ n)) (fun i => c.ds.length - (intOf i).toNat)
  case atStart => exact ⟨0, Nat.zero_le _, rfl, fun j hj => absurd hj (Nat.not_lt_zero _)⟩
  case round =>
    obtain ⟨k, hkk, rfl, A⟩ := hrel
    have hke : k = c.ds.length := by have := hDs.out; rw [this] at hkk ⊢; simp at hkk ⊢; exact hkk
    subst hke
    have HD : Hid (c.ds.contains n = false) := Lib.hid (by rw [hDs.out]; rfl)
    go_wp2_with fail
    have HB0 : Hid (Below (w.alloc (.cells #[.bool c.o0, .bool c.o1, .bool c.o2, .bool c.o3, .bool c.o4, .bool c.o5, .bool c.o6, .slice (some ⟨rb, ro, none⟩) c.rs.length c.cR, .slice c.D c.ds.length c.cD] 26)).heap.size (w.alloc (.cells #[.bool c.o0, .bool c.o1, .bool c.o2, .bool c.o3, .bool c.o4, .bool c.o5, .bool c.o6, .slice (some ⟨rb, ro, none⟩) c.rs.length c.cR, .slice c.D c.ds.length c.cD] 26)) (w.alloc (.cells #[.bool c.o0, .bool c.o1, .bool c.o2, .bool c.o3, .bool c.o4, .bool c.o5, .bool c.o6, .slice (some ⟨rb, ro, none⟩) c.rs.length c.cR, .slice c.D c.ds.length c.cD] 26))) := Lib.hid (Below.refl _ _)
    go_loopw [7] (fun i wr => ∃ k : Nat, k ≤ c.rs.length ∧ i = .int .i64 k ∧ Hid (Below (w.alloc (.cells #[.bool c.o0, .bool c.o1, .bool c.o2, .bool c.o3, .bool c.o4, .bool c.o5, .bool c.o6, .slice (some ⟨rb, ro, none⟩) c.rs.length c.cR, .slice c.D c.ds.length c.cD] 26)).heap.size (w.alloc (.cells #[.bool c.o0, .bool c.o1, .bool c.o2, .bool c.o3, .bool c.o4, .bool c.o5, .bool c.o6, .slice (some ⟨rb, ro, none⟩) c.rs.length c.cR, .slice c.D c.ds.length c.cD] 26)) wr) ∧ Hid (∀ j, j < k → (c.rs[j]!).is n = false)) (fun i _ => c.rs.length - (intOf i).toNat)
    case atStart => exact ⟨0, Nat.zero_le _, rfl, HB0, fun j hj => absurd hj (Nat.not_lt_zero _)⟩
    case round =>
      obtain ⟨k, hkk, rfl, hbr, A⟩ := hrel
      obtain ⟨hcr, hfr⟩ := bcell hbr.out
      have hzr := hbr.out.size; (try simp at hzr)
      have hBr : Below w.heap.size w wr := (below_one w _).trans (hbr.out.mono (by simp))
      by_cases hlt : k < c.rs.length
      · have hltz : (k : Int) < (c.rs.length : Int) := by omega
        have l2 := hrc k hlt
        have hm := Lib.hid (R8.mayP (hk.rs (c.rs[k]!) (by rw [getElem!_pos c.rs k hlt]; exact List.getElem_mem hlt)))
        generalize hy : c.rs[k]! = y at l2 hm
        have HY := Lib.hid hy; clear hy
        have g0 : w.cell? ⟨rb, ro + k * 8, none⟩ = some (.int .i64 y.kd) := l2 0 _ rfl
        have g1 : w.cell? ⟨rb, ro + k * 8 + 1, none⟩ = some (.int .i64 y.mo) := l2 1 _ rfl
        have g2 : w.cell? ⟨rb, ro + k * 8 + 2, none⟩ = some (.int .i64 y.da) := l2 2 _ rfl
        have g3 : w.cell? ⟨rb, ro + k * 8 + 3, none⟩ = some (.int .i64 y.kk) := l2 3 _ rfl
        have g4 : w.cell? ⟨rb, ro + k * 8 + 4, none⟩ = some (.int .i64 y.off) := l2 4 _ rfl
        have g5 : w.cell? ⟨rb, ro + k * 8 + 5, none⟩ = some (.int .i64 y.sh) := l2 5 _ rfl
        have g6 : w.cell? ⟨rb, ro + k * 8 + 6, none⟩ = some (.int .i64 y.fr) := l2 6 _ rfl
        have g7 : w.cell? ⟨rb, ro + k * 8 + 7, none⟩ = some (.int .i64 y.to) := l2 7 _ rfl
        clear l2
        cases hq : y.is n
        · have HQ := Lib.hid hq; clear hq
          go_wp2_with fail
          refine (rruleIs_c _ _ _ _ _ _ _ _ _ hm.out _).mono ?_; rintro e w2 ⟨rfl, hb2⟩
          rw [show Rul.isB y.kd y.mo y.da y.kk y.off y.sh y.fr y.to n = false from HQ.out]
          have hnx : Below (w.alloc (.cells #[.bool c.o0, .bool c.o1, .bool c.o2, .bool c.o3, .bool c.o4, .bool c.o5, .bool c.o6, .slice (some ⟨rb, ro, none⟩) c.rs.length c.cR, .slice c.D c.ds.length c.cD] 26)).heap.size (w.alloc (.cells #[.bool c.o0, .bool c.o1, .bool c.o2, .bool c.o3, .bool c.o4, .bool c.o5, .bool c.o6, .slice (some ⟨rb, ro, none⟩) c.rs.length c.cR, .slice c.D c.ds.length c.cD] 26)) w2 := hbr.out.trans (hb2.mono hbr.out.size)
          go_wp2_with fail
          go_roundw
          case rel =>
            refine ⟨k + 1, by omega, by go_num, hnx, (show Hid _ from fun j hj => ?_)⟩
            by_cases e : j = k
            · subst e; rw [HY.out]; exact HQ.out
            · exact A.out j (by omega)
          case measure => simp [intOf]; omega
        · have HQ := Lib.hid hq; clear hq
          have HA : Hid (c.rs.any (·.is n) = true) := Lib.hid (any_hit (·.is n) c.rs k hlt (by rw [HY.out]; exact HQ.out))
          go_wp2_with fail
          refine (rruleIs_c _ _ _ _ _ _ _ _ _ hm.out _).mono ?_; rintro e w2 ⟨rfl, hb2⟩
          rw [show Rul.isB y.kd y.mo y.da y.kk y.off y.sh y.fr y.to n = true from HQ.out]
          go_wp2_with fail
          go_ret
          exact ⟨ret_bool (by rw [← hV.out, HA.out]; simp), hBr.trans (hb2.mono hBr.size)⟩
      · have hke : k = c.rs.length := by omega
        subst hke
        have HA : Hid (c.rs.any (·.is n) = false) := Lib.hid (any_miss (·.is n) c.rs A.out)
        go_wp2_with fail
        go_ret
        exact ⟨ret_bool (by rw [← hV.out, HD.out, HA.out]; rfl), hBr⟩
set_option maxHeartbeats 4000000 in
theorem rci_10 (c : CalP) (n : Int) (h1 : 1 ≤ n) (h2 : n ≤ 3652059) (ho : c.off (Cal.wd n) = false) (hk : CalOk c) (V : Bool) (hV : Hid ((!c.ds.contains n && !c.rs.any (·.is n)) = V)) (w : World) (db do_ : Nat) (hD : Hid (c.D = some ⟨db, do_, none⟩)) (hdb : db < w.heap.size) (hdc : ∀ j, j < c.ds.length → w.cell? ⟨db, do_ + j, none⟩ = some (.int .i64 (c.ds.getD j 0))) (hR : Hid (c.rs = [])) : Calls Tryd.prog 31 #[.agg #[.bool c.o0, .bool c.o1, .bool c.o2, .bool c.o3, .bool c.o4, .bool c.o5, .bool c.o6, .slice c.A c.rs.length c.cR, .slice c.D c.ds.length c.cD], .int .i64 n] w fun e w' => e = .returned (.bool V) ∧ Below w.heap.size w w' := by
  have hd := dayB_in h1 h2
  have hix := off_cell c n
  obtain ⟨b1, b2⟩ := Cal.wd_bd n
  have hrl := hk.rl; have hdl := hk.dl
  go_enter Tryd.func31, Tryd.ntmps31
  go_wp2_with fail
  refine (rday_c _ _).mono ?_; rintro e w' ⟨rfl, rfl⟩
  go_wp2_with fail
  refine (rwd_c _ _).mono ?_; rintro e w' ⟨rfl, rfl⟩
  go_wp2_with fail
  clear hix hd
  rw [hD.out]
  go_loop [6] (fun i => ∃ k : Nat, k ≤ c.ds.length ∧ i = .int .i64 k ∧ Hid (∀ j, j < k → c.ds.getD j 0 ≠ n)) (fun i => c.ds.length - (intOf i).toNat)
  case atStart => exact ⟨0, Nat.zero_le _, rfl, fun j hj => absurd hj (Nat.not_lt_zero _)⟩
  case round =>
    obtain ⟨k, hkk, rfl, A⟩ := hrel
    by_cases hlt : k < c.ds.length
    · have hltz : (k : Int) < (c.ds.length : Int) := by omega
      have g := hdc k hlt
      clear hdc
      by_cases hx : c.ds.getD k 0 = n
      · have HH : Hid (c.ds.contains n = true) := Lib.hid (has_at k hlt hx)
        have hq : (c.ds.getD k 0 == n) = true := beq_iff_eq.2 hx
        generalize hX : c.ds.getD k 0 = x at *; clear hX hx
        go_wp2_with fail
        go_ret
        exact ⟨ret_bool (by rw [← hV.out, HH.out]; rfl), by repeat (first | assumption | exact Below.refl _ _ | (with_reducible refine Below.drew ?_) | (with_reducible refine below_drewN' ?_ _) | (with_reducible refine below_al ?_) | ((with_reducible refine below_set ?_ ?_); rotate_left; focus (first | (simp; done) | (simp; omega))))⟩
      · have HX := Lib.hid hx
        have hq : (c.ds.getD k 0 == n) = false := beq_eq_false_iff_ne.2 hx
        generalize hX : c.ds.getD k 0 = x at *; clear hx
        have HE := Lib.hid hX; clear hX
        go_wp2_with fail
        go_round
        case rel =>
          refine ⟨k + 1, by omega, by go_num, (show Hid _ from fun j hj => ?_)⟩
          by_cases e : j = k
          · subst e; rw [HE.out]; exact HX.out
          · exact A.out j (by omega)
        case measure => simp [intOf]; omega
    · have hltz : ¬ (k : Int) < (c.ds.length : Int) := by omega
      have hke : k = c.ds.length := by omega
      subst hke
      have HD : Hid (c.ds.contains n = false) := Lib.hid (has_none A.out)
      clear hdc
      go_wp2_with fail
      have HB0 : Hid (Below (w.alloc (.cells #[.bool c.o0, .bool c.o1, .bool c.o2, .bool c.o3, .bool c.o4, .bool c.o5, .bool c.o6, .slice c.A c.rs.length c.cR, .slice (some ⟨db, do_, none⟩) c.ds.length c.cD] 26)).heap.size (w.alloc (.cells #[.bool c.o0, .bool c.o1, .bool c.o2, .bool c.o3, .bool c.o4, .bool c.o5, .bool c.o6, .slice c.A c.rs.length c.cR, .slice (some ⟨db, do_, none⟩) c.ds.length c.cD] 26)) (w.alloc (.cells #[.bool c.o0, .bool c.o1, .bool c.o2, .bool c.o3, .bool c.o4, .bool c.o5, .bool c.o6, .slice c.A c.rs.length c.cR, .slice (some ⟨db, do_, none⟩) c.ds.length c.cD] 26))) := Lib.hid (Below.refl _ _)
      go_loopw [7] (fun i wr => ∃ k : Nat, k ≤ c.rs.length ∧ i = .int .i64 k ∧ Hid (Below (w.alloc (.cells #[.bool c.o0, .bool c.o1, .bool c.o2, .bool c.o3, .bool c.o4, .bool c.o5, .bool c.o6, .slice c.A c.rs.length c.cR, .slice (some ⟨db, do_, none⟩) c.ds.length c.cD] 26)).heap.size (w.alloc (.cells #[.bool c.o0, .bool c.o1, .bool c.o2, .bool c.o3, .bool c.o4, .bool c.o5, .bool c.o6, .slice c.A c.rs.length c.cR, .slice (some ⟨db, do_, none⟩) c.ds.length c.cD] 26)) wr) ∧ Hid (∀ j, j < k → (c.rs[j]!).is n = false)) (fun i _ => c.rs.length - (intOf i).toNat)
      case atStart => exact ⟨0, Nat.zero_le _, rfl, HB0, fun j hj => absurd hj (Nat.not_lt_zero _)⟩
      case round =>
        obtain ⟨k, hkk, rfl, hbr, A⟩ := hrel
        obtain ⟨hcr, hfr⟩ := bcell hbr.out
        have hzr := hbr.out.size; (try simp at hzr)
        have hBr : Below w.heap.size w wr := (below_one w _).trans (hbr.out.mono (by simp))
        have hke : k = c.rs.length := by have := hR.out; rw [this] at hkk ⊢; simp at hkk ⊢; exact hkk
        subst hke
        have HA : Hid (c.rs.any (·.is n) = false) := Lib.hid (by rw [hR.out]; rfl)
        go_wp2_with fail
        go_ret
        exact ⟨ret_bool (by rw [← hV.out, HD.out, HA.out]; rfl), hBr⟩
set_option maxHeartbeats 4000000 in
theorem rci_11 (c : CalP) (n : Int) (h1 : 1 ≤ n) (h2 : n ≤ 3652059) (ho : c.off (Cal.wd n) = false) (hk : CalOk c) (V : Bool) (hV : Hid ((!c.ds.contains n && !c.rs.any (·.is n)) = V)) (w : World) (db do_ : Nat) (hD : Hid (c.D = some ⟨db, do_, none⟩)) (hdb : db < w.heap.size) (hdc : ∀ j, j < c.ds.length → w.cell? ⟨db, do_ + j, none⟩ = some (.int .i64 (c.ds.getD j 0))) (rb ro : Nat) (hA : Hid (c.A = some ⟨rb, ro, none⟩)) (hrb : rb < w.heap.size) (hrc : ∀ j, j < c.rs.length → ∀ i v, (c.rs[j]!.enc)[i]? = some v → w.cell? ⟨rb, ro + j * 8 + i, none⟩ = some v) : Calls Tryd.prog 31 #[.agg #[.bool c.o0, .bool c.o1, .bool c.o2, .bool c.o3, .bool c.o4, .bool c.o5, .bool c.o6, .slice c.A c.rs.length c.cR, .slice c.D c.ds.length c.cD], .int .i64 n] w fun e w' => e = .returned (.bool V) ∧ Below w.heap.size w w' := by
  have hd := dayB_in h1 h2
  have hix := off_cell c n
  obtain ⟨b1, b2⟩ := Cal.wd_bd n
  have hrl := hk.rl; have hdl := hk.dl
  go_enter Tryd.func31, Tryd.ntmps31
  go_wp2_with fail
  refine (rday_c _ _).mono ?_; rintro e w' ⟨rfl, rfl⟩
  go_wp2_with fail
  refine (rwd_c _ _).mono ?_; rintro e w' ⟨rfl, rfl⟩
  go_wp2_with fail
  clear hix hd
  rw [hD.out]
  rw [hA.out]
  go_loop [6] (fun i => ∃ k : Nat, k ≤ c.ds.length ∧ i = .int .i64 k ∧ Hid (∀ j, j < k → c.ds.getD j 0 ≠ n)) (fun i => c.ds.length - (intOf i).toNat)
  case atStart => exact ⟨0, Nat.zero_le _, rfl, fun j hj => absurd hj (Nat.not_lt_zero _)⟩
  case round =>
    obtain ⟨k, hkk, rfl, A⟩ := hrel
    by_cases hlt : k < c.ds.length
    · have hltz : (k : Int) < (c.ds.length : Int) := by omega
      have g := hdc k hlt
      clear hdc
      by_cases hx : c.ds.getD k 0 = n
      · have HH : Hid (c.ds.contains n = true) := Lib.hid (has_at k hlt hx)
        have hq : (c.ds.getD k 0 == n) = true := beq_iff_eq.2 hx
        generalize hX : c.ds.getD k 0 = x at *; clear hX hx
        go_wp2_with fail
        go_ret
        exact ⟨ret_bool (by rw [← hV.out, HH.out]; rfl), by repeat (first | assumption | exact Below.refl _ _ | (with_reducible refine Below.drew ?_) | (with_reducible refine below_drewN' ?_ _) | (with_reducible refine below_al ?_) | ((with_reducible refine below_set ?_ ?_); rotate_left; focus (first | (simp; done) | (simp; omega))))⟩
      · have HX := Lib.hid hx
        have hq : (c.ds.getD k 0 == n) = false := beq_eq_false_iff_ne.2 hx
        generalize hX : c.ds.getD k 0 = x at *; clear hx
        have HE := Lib.hid hX; clear hX
        go_wp2_with fail
        go_round
        case rel =>
          refine ⟨k + 1, by omega, by go_num, (show Hid _ from fun j hj => ?_)⟩
          by_cases e : j = k
          · subst e; rw [HE.out]; exact HX.out
          · exact A.out j (by omega)
        case measure => simp [intOf]; omega
    · have hltz : ¬ (k : Int) < (c.ds.length : Int) := by omega
      have hke : k = c.ds.length := by omega
      subst hke
      have HD : Hid (c.ds.contains n = false) := Lib.hid (has_none A.out)
      clear hdc
      go_wp2_with fail
      have HB0 : Hid (Below (w.alloc (.cells #[.bool c.o0, .bool c.o1, .bool c.o2, .bool c.o3, .bool c.o4, .bool c.o5, .bool c.o6, .slice (some ⟨rb, ro, none⟩) c.rs.length c.cR, .slice (some ⟨db, do_, none⟩) c.ds.length c.cD] 26)).heap.size (w.alloc (.cells #[.bool c.o0, .bool c.o1, .bool c.o2, .bool c.o3, .bool c.o4, .bool c.o5, .bool c.o6, .slice (some ⟨rb, ro, none⟩) c.rs.length c.cR, .slice (some ⟨db, do_, none⟩) c.ds.length c.cD] 26)) (w.alloc (.cells #[.bool c.o0, .bool c.o1, .bool c.o2, .bool c.o3, .bool c.o4, .bool c.o5, .bool c.o6, .slice (some ⟨rb, ro, none⟩) c.rs.length c.cR, .slice (some ⟨db, do_, none⟩) c.ds.length c.cD] 26))) := Lib.hid (Below.refl _ _)
      go_loopw [7] (fun i wr => ∃ k : Nat, k ≤ c.rs.length ∧ i = .int .i64 k ∧ Hid (Below (w.alloc (.cells #[.bool c.o0, .bool c.o1, .bool c.o2, .bool c.o3, .bool c.o4, .bool c.o5, .bool c.o6, .slice (some ⟨rb, ro, none⟩) c.rs.length c.cR, .slice (some ⟨db, do_, none⟩) c.ds.length c.cD] 26)).heap.size (w.alloc (.cells #[.bool c.o0, .bool c.o1, .bool c.o2, .bool c.o3, .bool c.o4, .bool c.o5, .bool c.o6, .slice (some ⟨rb, ro, none⟩) c.rs.length c.cR, .slice (some ⟨db, do_, none⟩) c.ds.length c.cD] 26)) wr) ∧ Hid (∀ j, j < k → (c.rs[j]!).is n = false)) (fun i _ => c.rs.length - (intOf i).toNat)
      case atStart => exact ⟨0, Nat.zero_le _, rfl, HB0, fun j hj => absurd hj (Nat.not_lt_zero _)⟩
      case round =>
        obtain ⟨k, hkk, rfl, hbr, A⟩ := hrel
        obtain ⟨hcr, hfr⟩ := bcell hbr.out
        have hzr := hbr.out.size; (try simp at hzr)
        have hBr : Below w.heap.size w wr := (below_one w _).trans (hbr.out.mono (by simp))
        by_cases hlt : k < c.rs.length
        · have hltz : (k : Int) < (c.rs.length : Int) := by omega
          have l2 := hrc k hlt
          have hm := Lib.hid (R8.mayP (hk.rs (c.rs[k]!) (by rw [getElem!_pos c.rs k hlt]; exact List.getElem_mem hlt)))
          generalize hy : c.rs[k]! = y at l2 hm
          have HY := Lib.hid hy; clear hy
          have g0 : w.cell? ⟨rb, ro + k * 8, none⟩ = some (.int .i64 y.kd) := l2 0 _ rfl
          have g1 : w.cell? ⟨rb, ro + k * 8 + 1, none⟩ = some (.int .i64 y.mo) := l2 1 _ rfl
          have g2 : w.cell? ⟨rb, ro + k * 8 + 2, none⟩ = some (.int .i64 y.da) := l2 2 _ rfl
          have g3 : w.cell? ⟨rb, ro + k * 8 + 3, none⟩ = some (.int .i64 y.kk) := l2 3 _ rfl
          have g4 : w.cell? ⟨rb, ro + k * 8 + 4, none⟩ = some (.int .i64 y.off) := l2 4 _ rfl
          have g5 : w.cell? ⟨rb, ro + k * 8 + 5, none⟩ = some (.int .i64 y.sh) := l2 5 _ rfl
          have g6 : w.cell? ⟨rb, ro + k * 8 + 6, none⟩ = some (.int .i64 y.fr) := l2 6 _ rfl
          have g7 : w.cell? ⟨rb, ro + k * 8 + 7, none⟩ = some (.int .i64 y.to) := l2 7 _ rfl
          clear l2
          cases hq : y.is n
          · have HQ := Lib.hid hq; clear hq
            go_wp2_with fail
            refine (rruleIs_c _ _ _ _ _ _ _ _ _ hm.out _).mono ?_; rintro e w2 ⟨rfl, hb2⟩
            rw [show Rul.isB y.kd y.mo y.da y.kk y.off y.sh y.fr y.to n = false from HQ.out]
            have hnx : Below (w.alloc (.cells #[.bool c.o0, .bool c.o1, .bool c.o2, .bool c.o3, .bool c.o4, .bool c.o5, .bool c.o6, .slice (some ⟨rb, ro, none⟩) c.rs.length c.cR, .slice (some ⟨db, do_, none⟩) c.ds.length c.cD] 26)).heap.size (w.alloc (.cells #[.bool c.o0, .bool c.o1, .bool c.o2, .bool c.o3, .bool c.o4, .bool c.o5, .bool c.o6, .slice (some ⟨rb, ro, none⟩) c.rs.length c.cR, .slice (some ⟨db, do_, none⟩) c.ds.length c.cD] 26)) w2 := hbr.out.trans (hb2.mono hbr.out.size)
            go_wp2_with fail
            go_roundw
            case rel =>
              refine ⟨k + 1, by omega, by go_num, hnx, (show Hid _ from fun j hj => ?_)⟩
              by_cases e : j = k
              · subst e; rw [HY.out]; exact HQ.out
              · exact A.out j (by omega)
            case measure => simp [intOf]; omega
          · have HQ := Lib.hid hq; clear hq
            have HA : Hid (c.rs.any (·.is n) = true) := Lib.hid (any_hit (·.is n) c.rs k hlt (by rw [HY.out]; exact HQ.out))
            go_wp2_with fail
            refine (rruleIs_c _ _ _ _ _ _ _ _ _ hm.out _).mono ?_; rintro e w2 ⟨rfl, hb2⟩
            rw [show Rul.isB y.kd y.mo y.da y.kk y.off y.sh y.fr y.to n = true from HQ.out]
            go_wp2_with fail
            go_ret
            exact ⟨ret_bool (by rw [← hV.out, HA.out]; simp), hBr.trans (hb2.mono hBr.size)⟩
        · have hke : k = c.rs.length := by omega
          subst hke
          have HA : Hid (c.rs.any (·.is n) = false) := Lib.hid (any_miss (·.is n) c.rs A.out)
          go_wp2_with fail
          go_ret
          exact ⟨ret_bool (by rw [← hV.out, HD.out, HA.out]; rfl), hBr⟩
theorem rcalIs_c (c : CalP) (n : Int) (hk : CalOk c) (w : World) (hc : CalIn w c) : Calls Tryd.prog 31 #[.agg #[.bool c.o0, .bool c.o1, .bool c.o2, .bool c.o3, .bool c.o4, .bool c.o5, .bool c.o6, .slice c.A c.rs.length c.cR, .slice c.D c.ds.length c.cD], .int .i64 n] w fun e w' => e = .returned (.bool (c.is n)) ∧ Below w.heap.size w w' := by
  by_cases h : 1 ≤ n ∧ n ≤ 3652059
  · cases ho : c.off (Cal.wd n)
    · have e : c.is n = (!c.ds.contains n && !c.rs.any (·.is n)) := by unfold CalP.is; rw [dayB_in h.1 h.2, ho]; rfl
      rw [e]
      rcases hc.d with hd | ⟨db, do_, hD, hdb, hdc⟩ <;> rcases hc.r with hr | ⟨rb, ro, hA, hrb, hrc⟩
      · exact rci_00 c n h.1 h.2 ho hk _ rfl w hd hr
      · exact rci_01 c n h.1 h.2 ho hk _ rfl w hd rb ro hA hrb hrc
      · exact rci_10 c n h.1 h.2 ho hk _ rfl w db do_ hD hdb hdc hr
      · exact rci_11 c n h.1 h.2 ho hk _ rfl w db do_ hD hdb hdc rb ro hA hrb hrc
    · have e : c.is n = false := by unfold CalP.is; rw [dayB_in h.1 h.2, ho]; rfl
      rw [e]; exact rci_off c n h.1 h.2 ho w
  · rw [CalP.is_out (by omega)]; exact rci_out c n (show n < 1 ∨ 3652059 < n by omega) w
end Go.Proofs.YtlilffoflkkbdaaDoor
