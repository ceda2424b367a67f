/- Months of 30 days, the program's: what turns two days' stand-ins, by each of three ways. Conditions: the two stand-ins lie in one block. -/
import Derived.Test.YtjcjchapfiokeaaDoorThiA
namespace Go.Proofs.YtjcjchapfiokeaaDoor
open Go.RowKit
set_option linter.unusedVariables false
set_option linter.unusedSimpArgs false
def v1 (eom f1 : Bool) (d1 : Int) : Int := if (eom && f1) = true then 30 else d1
def v2 (eom f1 f2 : Bool) (d2 : Int) : Int := if (eom && (f1 && f2)) = true then 30 else d2
def x2 (eom f1 f2 : Bool) (d1 d2 : Int) : Int := if 30 ≤ v1 eom f1 d1 then min (v2 eom f1 f2 d2) 30 else v2 eom f1 f2 d2
theorem us1_c (k : Nat) (y1 m1 d1 : Int) (l1 : Bool) (y2 m2 d2 : Int) (l2 : Bool) (eom f1 f2 : Bool) (h1 : (l1 && (m1 == 2)) = f1) (h2 : (l2 && (m2 == 2)) = f2) (be : Nat) (w : World) (hT : T8 k w y1 m1 d1 l1 y2 m2 d2 l2) (he : w.cell? ⟨be, 0, none⟩ = some (.bool eom)) : Calls Tryd.prog 58 #[.pointer (some ⟨k, 0, none⟩), .pointer (some ⟨be, 0, none⟩)] w fun e w' => e = .returned (.tuple #[]) ∧ T8 k w' y1 m1 (min (v1 eom f1 d1) 30) l1 y2 m2 (x2 eom f1 f2 d1 d2) l2 ∧ Below k w w' := by
  unfold x2
  cases eom
  · have e1 : v1 false f1 d1 = d1 := rfl
    have e2 : v2 false f1 f2 d2 = d2 := rfl
    rw [e1, e2]
    by_cases hd : 30 ≤ d1
    · rw [if_pos hd]; exact us1_n1 k y1 m1 d1 l1 y2 m2 d2 l2 be w hT he hd
    · rw [if_neg hd]; exact us1_n0 k y1 m1 d1 l1 y2 m2 d2 l2 be w hT he hd
  · cases f1
    · have e1 : v1 true false d1 = d1 := rfl
      have e2 : v2 true false f2 d2 = d2 := rfl
      rw [e1, e2]
      by_cases hd : 30 ≤ d1
      · rw [if_pos hd]; exact us1_m1 k y1 m1 d1 l1 y2 m2 d2 l2 be w hT he h1 hd
      · rw [if_neg hd]; exact us1_m0 k y1 m1 d1 l1 y2 m2 d2 l2 be w hT he h1 hd
    · cases f2
      · exact us1_t0 k y1 m1 d1 l1 y2 m2 d2 l2 be w hT he h1 h2
      · exact us1_t1 k y1 m1 d1 l1 y2 m2 d2 l2 be w hT he h1 h2
set_option maxHeartbeats 2000000 in
theorem both1_cut (k : Nat) (y1 m1 d1 : Int) (l1 : Bool) (y2 m2 d2 : Int) (l2 : Bool) (bx : Nat) (w : World) (hT : T8 k w y1 m1 d1 l1 y2 m2 d2 l2) (hx : w.cell? ⟨bx, 0, none⟩ = some (.func (.func 60) #[] #[])) (hne : bx ≠ k)  : Calls Tryd.prog 82 #[.pointer (some ⟨k, 0, none⟩), .pointer (some ⟨bx, 0, none⟩)] w fun e w' => e = .returned (.tuple #[]) ∧ T8 k w' y1 m1 (min d1 30) l1 y2 m2 (min d2 30) l2 ∧ Below k w w' := by
  have HT := Lib.hid hT
  obtain ⟨hk, hfz, c0, c1, c2, c3, c4, c5, c6, c7⟩ := hT.cells
  have hk' := Nat.le_of_lt hk
  clear hT
  go_enter Tryd.func82, Tryd.ntmps82
  go_wp2_with fail
  go_region_with (go_at_call 60; refine (cut0_c k d1 _ (by simp [go_sem, *]) (by simp [go_sem, *])).mono ?_; rintro e w' ⟨rfl, rfl⟩)
  go_wp2_with fail
  go_region_with (go_at_call 60; refine (cut4_c k d2 _ (by simp [go_sem, *]) (by simp [go_sem, *])).mono ?_; rintro e w' ⟨rfl, rfl⟩)
  go_wp2_with fail
  refine bodyPost_end (results_none rfl _ _ _) rfl ⟨rfl, ?_, ?_⟩
  · have hT := HT.out
    have h := (blk_dr (blk_dr (blk_set (i := 6) (u := .int .i64 (min d2 30)) (blk_set (i := 2) (u := .int .i64 (min d1 30)) hT))))
    unfold T8; simpa using h
  · exact (((Below.refl k w).setCell (Nat.le_refl _) _).setCell (Nat.le_refl _) _).drew.drew
set_option maxHeartbeats 2000000 in
theorem both1_end_11 (k : Nat) (y1 m1 d1 : Int) (l1 : Bool) (y2 m2 d2 : Int) (l2 : Bool) (bx : Nat) (w : World) (hT : T8 k w y1 m1 d1 l1 y2 m2 d2 l2) (hx : w.cell? ⟨bx, 0, none⟩ = some (.func (.func 66) #[] #[])) (hne : bx ≠ k) (e1 : l1 = true) (e2 : l2 = true) : Calls Tryd.prog 82 #[.pointer (some ⟨k, 0, none⟩), .pointer (some ⟨bx, 0, none⟩)] w fun e w' => e = .returned (.tuple #[]) ∧ T8 k w' y1 m1 (30) l1 y2 m2 (30) l2 ∧ Below k w w' := by
  have HT := Lib.hid hT
  obtain ⟨hk, hfz, c0, c1, c2, c3, c4, c5, c6, c7⟩ := hT.cells
  have hk' := Nat.le_of_lt hk
  clear hT
  go_enter Tryd.func82, Tryd.ntmps82
  go_wp2_with fail
  go_region_with (go_at_call 66; refine (end_yes0 k d1 _ (by simp [go_sem, *]) (by simp [go_sem, *]) (by simp [go_sem, *])).mono ?_; rintro e w' ⟨rfl, rfl⟩)
  go_wp2_with fail
  go_region_with (go_at_call 66; refine (end_yes4 k d2 _ (by simp [go_sem, *]) (by simp [go_sem, *]) (by simp [go_sem, *])).mono ?_; rintro e w' ⟨rfl, rfl⟩)
  go_wp2_with fail
  refine bodyPost_end (results_none rfl _ _ _) rfl ⟨rfl, ?_, ?_⟩
  · have hT := HT.out
    have h := (blk_dr (blk_dr (blk_set (i := 6) (u := .int .i64 (30)) (blk_set (i := 2) (u := .int .i64 (30)) hT))))
    unfold T8; simpa using h
  · exact (((Below.refl k w).setCell (Nat.le_refl _) _).setCell (Nat.le_refl _) _).drew.drew
set_option maxHeartbeats 2000000 in
theorem both1_end_10 (k : Nat) (y1 m1 d1 : Int) (l1 : Bool) (y2 m2 d2 : Int) (l2 : Bool) (bx : Nat) (w : World) (hT : T8 k w y1 m1 d1 l1 y2 m2 d2 l2) (hx : w.cell? ⟨bx, 0, none⟩ = some (.func (.func 66) #[] #[])) (hne : bx ≠ k) (e1 : l1 = true) (e2 : l2 = false) : Calls Tryd.prog 82 #[.pointer (some ⟨k, 0, none⟩), .pointer (some ⟨bx, 0, none⟩)] w fun e w' => e = .returned (.tuple #[]) ∧ T8 k w' y1 m1 (30) l1 y2 m2 (d2) l2 ∧ Below k w w' := by
  have HT := Lib.hid hT
  obtain ⟨hk, hfz, c0, c1, c2, c3, c4, c5, c6, c7⟩ := hT.cells
  have hk' := Nat.le_of_lt hk
  clear hT
  go_enter Tryd.func82, Tryd.ntmps82
  go_wp2_with fail
  go_region_with (go_at_call 66; refine (end_yes0 k d1 _ (by simp [go_sem, *]) (by simp [go_sem, *]) (by simp [go_sem, *])).mono ?_; rintro e w' ⟨rfl, rfl⟩)
  go_wp2_with fail
  go_region_with (go_at_call 66; refine (end_no4 k d2 _ (by simp [go_sem, *]) (by simp [go_sem, *]) (by simp [go_sem, *])).mono ?_; rintro e w' ⟨rfl, rfl⟩)
  go_wp2_with fail
  refine bodyPost_end (results_none rfl _ _ _) rfl ⟨rfl, ?_, ?_⟩
  · have hT := HT.out
    have h := (blk_dr (blk_dr (blk_set (i := 2) (u := .int .i64 (30)) hT)))
    unfold T8; simpa using h
  · exact ((Below.refl k w).setCell (Nat.le_refl _) _).drew.drew
set_option maxHeartbeats 2000000 in
theorem both1_end_01 (k : Nat) (y1 m1 d1 : Int) (l1 : Bool) (y2 m2 d2 : Int) (l2 : Bool) (bx : Nat) (w : World) (hT : T8 k w y1 m1 d1 l1 y2 m2 d2 l2) (hx : w.cell? ⟨bx, 0, none⟩ = some (.func (.func 66) #[] #[])) (hne : bx ≠ k) (e1 : l1 = false) (e2 : l2 = true) : Calls Tryd.prog 82 #[.pointer (some ⟨k, 0, none⟩), .pointer (some ⟨bx, 0, none⟩)] w fun e w' => e = .returned (.tuple #[]) ∧ T8 k w' y1 m1 (d1) l1 y2 m2 (30) l2 ∧ Below k w w' := by
  have HT := Lib.hid hT
  obtain ⟨hk, hfz, c0, c1, c2, c3, c4, c5, c6, c7⟩ := hT.cells
  have hk' := Nat.le_of_lt hk
  clear hT
  go_enter Tryd.func82, Tryd.ntmps82
  go_wp2_with fail
  go_region_with (go_at_call 66; refine (end_no0 k d1 _ (by simp [go_sem, *]) (by simp [go_sem, *]) (by simp [go_sem, *])).mono ?_; rintro e w' ⟨rfl, rfl⟩)
  go_wp2_with fail
  go_region_with (go_at_call 66; refine (end_yes4 k d2 _ (by simp [go_sem, *]) (by simp [go_sem, *]) (by simp [go_sem, *])).mono ?_; rintro e w' ⟨rfl, rfl⟩)
  go_wp2_with fail
  refine bodyPost_end (results_none rfl _ _ _) rfl ⟨rfl, ?_, ?_⟩
  · have hT := HT.out
    have h := (blk_dr (blk_dr (blk_set (i := 6) (u := .int .i64 (30)) hT)))
    unfold T8; simpa using h
  · exact ((Below.refl k w).setCell (Nat.le_refl _) _).drew.drew
set_option maxHeartbeats 2000000 in
theorem both1_end_00 (k : Nat) (y1 m1 d1 : Int) (l1 : Bool) (y2 m2 d2 : Int) (l2 : Bool) (bx : Nat) (w : World) (hT : T8 k w y1 m1 d1 l1 y2 m2 d2 l2) (hx : w.cell? ⟨bx, 0, none⟩ = some (.func (.func 66) #[] #[])) (hne : bx ≠ k) (e1 : l1 = false) (e2 : l2 = false) : Calls Tryd.prog 82 #[.pointer (some ⟨k, 0, none⟩), .pointer (some ⟨bx, 0, none⟩)] w fun e w' => e = .returned (.tuple #[]) ∧ T8 k w' y1 m1 (d1) l1 y2 m2 (d2) l2 ∧ Below k w w' := by
  have HT := Lib.hid hT
  obtain ⟨hk, hfz, c0, c1, c2, c3, c4, c5, c6, c7⟩ := hT.cells
  have hk' := Nat.le_of_lt hk
  clear hT
  go_enter Tryd.func82, Tryd.ntmps82
  go_wp2_with fail
  go_region_with (go_at_call 66; refine (end_no0 k d1 _ (by simp [go_sem, *]) (by simp [go_sem, *]) (by simp [go_sem, *])).mono ?_; rintro e w' ⟨rfl, rfl⟩)
  go_wp2_with fail
  go_region_with (go_at_call 66; refine (end_no4 k d2 _ (by simp [go_sem, *]) (by simp [go_sem, *]) (by simp [go_sem, *])).mono ?_; rintro e w' ⟨rfl, rfl⟩)
  go_wp2_with fail
  refine bodyPost_end (results_none rfl _ _ _) rfl ⟨rfl, ?_, ?_⟩
  · have hT := HT.out
    have h := (blk_dr (blk_dr hT))
    unfold T8; simpa using h
  · exact (Below.refl k w).drew.drew
def en (l : Bool) (d : Int) : Int := if l = true then 30 else d
theorem both1_end (k : Nat) (y1 m1 d1 : Int) (l1 : Bool) (y2 m2 d2 : Int) (l2 : Bool) (bx : Nat) (w : World) (hT : T8 k w y1 m1 d1 l1 y2 m2 d2 l2) (hx : w.cell? ⟨bx, 0, none⟩ = some (.func (.func 66) #[] #[])) (hne : bx ≠ k) : Calls Tryd.prog 82 #[.pointer (some ⟨k, 0, none⟩), .pointer (some ⟨bx, 0, none⟩)] w fun e w' => e = .returned (.tuple #[]) ∧ T8 k w' y1 m1 (en l1 d1) l1 y2 m2 (en l2 d2) l2 ∧ Below k w w' := by
  cases l1 <;> cases l2
  · exact both1_end_00 k y1 m1 d1 _ y2 m2 d2 _ bx w hT hx hne rfl rfl
  · exact both1_end_01 k y1 m1 d1 _ y2 m2 d2 _ bx w hT hx hne rfl rfl
  · exact both1_end_10 k y1 m1 d1 _ y2 m2 d2 _ bx w hT hx hne rfl rfl
  · exact both1_end_11 k y1 m1 d1 _ y2 m2 d2 _ bx w hT hx hne rfl rfl
theorem both_c (fn : FuncId) (w : World) : Calls Tryd.prog 64 #[.func (.func fn) #[] #[]] w fun e w' => e = .returned (.func (.func 82) #[] #[.pointer (some ⟨w.heap.size, 0, none⟩)]) ∧ ∃ t, w' = w.alloc (.cells #[.func (.func fn) #[] #[]] t) := by
  go_enter Tryd.func64, Tryd.ntmps64
  go_wp2_with fail
  go_ret
  exact ⟨rfl, _, rfl⟩
end Go.Proofs.YtjcjchapfiokeaaDoor
