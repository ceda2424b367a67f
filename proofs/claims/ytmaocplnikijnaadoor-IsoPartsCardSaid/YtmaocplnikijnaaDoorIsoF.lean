/- The contract of texts that are read: the document's. Conditions: none. -/
import Derived.Test.YtmaocplnikijnaaDoorIsoE
import Derived.StillTailTactics
namespace Go.Proofs.YtmaocplnikijnaaDoor
open Go.RowKit
set_option linter.unusedVariables false
namespace Iso
def pt (l : List UInt8) (a : Nat) : Nat → Int
  | 0 => 0
  | j + 1 => 10 * pt l a j + ch l (a + j) - 48
def A0 (l : List UInt8) (i : Nat) : Int := pt l 0 (min i 4)
def A1 (l : List UInt8) (i : Nat) : Int := pt l 5 (min i 7 - 5)
def A2 (l : List UInt8) (i : Nat) : Int := pt l 8 (i - 8)
def kAt (i : Nat) : Int := if i ≤ 4 then 0 else if i ≤ 7 then 1 else 2
theorem pt_bd (l : List UInt8) (a : Nat) : ∀ j : Nat, j ≤ 3 → (∀ i, i < j → 48 ≤ ch l (a + i) ∧ ch l (a + i) ≤ 57) → 0 ≤ pt l a j ∧ pt l a j ≤ 999 := by
  intro j hj h
  have hk' : j = 0 ∨ j = 1 ∨ j = 2 ∨ j = 3 := by omega
  rcases hk' with rfl | rfl | rfl | rfl
  · simp [pt]
  · have := h 0 (by omega); simp only [pt]; omega
  · have := h 0 (by omega); have := h 1 (by omega); simp only [pt]; omega
  · have := h 0 (by omega); have := h 1 (by omega); have := h 2 (by omega); simp only [pt]; omega
theorem ch_bd (l : List UInt8) (i : Nat) : 0 ≤ ch l i ∧ ch l i ≤ 255 := by
  unfold ch; have := (l.getD i 0).toNat_lt; omega
theorem pt_end (l : List UInt8) : A0 l 10 = rY l ∧ A1 l 10 = rM l ∧ A2 l 10 = rD l := by
  refine ⟨?_, ?_, ?_⟩
  · show pt l 0 4 = _; simp only [pt, rY, Nat.zero_add, Nat.add_zero]; omega
  · show pt l 5 2 = _; simp only [pt, rM, Nat.add_zero, Nat.reduceAdd]; omega
  · show pt l 8 2 = _; simp only [pt, rD, Nat.add_zero, Nat.reduceAdd]; omega
theorem okAt_dig {l : List UInt8} {i : Nat} (h : ¬ (i = 4 ∨ i = 7)) (hk : okAt l i = true) : 48 ≤ ch l i ∧ ch l i ≤ 57 := by
  unfold okAt at hk; rw [okC_dig h] at hk; exact of_decide_eq_true hk
theorem okAt_mk {l : List UInt8} {i : Nat} (h : ¬ (i = 4 ∨ i = 7)) (a : 48 ≤ ch l i) (b : ch l i ≤ 57) : okAt l i = true := by
  unfold okAt; rw [okC_dig h]; exact decide_eq_true ⟨a, b⟩
theorem okAt_no {l : List UInt8} {i : Nat} (h : ¬ (i = 4 ∨ i = 7)) (a : ch l i < 48 ∨ 57 < ch l i) : okAt l i = false := by
  unfold okAt; rw [okC_dig h]; exact decide_eq_false (by unfold ch at a; omega)
theorem okAt_dash {l : List UInt8} {i : Nat} (h : i = 4 ∨ i = 7) (a : ch l i = 45) : okAt l i = true := by
  unfold okAt; rw [okC_dash h]; exact decide_eq_true a
theorem okAt_nodash {l : List UInt8} {i : Nat} (h : i = 4 ∨ i = 7) (a : ¬ ch l i = 45) : okAt l i = false := by
  unfold okAt; rw [okC_dash h]; exact decide_eq_false a
theorem ok_next {l : List UInt8} {k : Nat} (h : ∀ i, i < k → okAt l i = true) (hk : okAt l k = true) : ∀ i, i < k + 1 → okAt l i = true := by
  intro i hi
  by_cases e : i = k
  · subst e; exact hk
  · exact h i (by omega)
theorem sh_no {l : List UInt8} {k : Nat} (hk : k < 10) (h : okAt l k = false) : rdV l = 0 ∧ rdE l = 10 := by
  have c := ok_not hk h
  unfold rdV rdE
  rw [if_neg (by rw [c]; decide), if_neg (by rw [c]; decide)]; exact ⟨rfl, rfl⟩
theorem sh_yes {l : List UInt8} (h : shB l = true) : rdV l = numV (rY l) (rM l) (rD l) ∧ rdE l = numE (rY l) (rM l) (rD l) := by
  unfold rdV rdE; rw [if_pos h, if_pos h]; exact ⟨rfl, rfl⟩
end Iso
theorem idx_at (s : ByteArray) (i : Nat) (h : i < s.size) (W : World) : (Instr.index 9 (.string s) (.int .i64 (i : Int))).run Tryd.prog W = .ok (.int .u8 (Iso.ch s.data.toList i)) W := by
  rw [run_index_string (P := Tryd.prog) W 9 s .i64 (i : Int) Tryd.underlying9, dif_pos ⟨by omega, by omega⟩]
  have := Iso.getD_byte s i h
  unfold Iso.ch; rw [this]; rfl

def rdSt (s : ByteArray) (w : World) (n : Nat) (wr : World) : Prop := ∃ d : Nat, wr = (w.alloc (.cells #[.int .i64 (Iso.A0 s.data.toList n), .int .i64 (Iso.A1 s.data.toList n), .int .i64 (Iso.A2 s.data.toList n)] 76)).drewN d
theorem ret_no {l : List UInt8} {k : Nat} (hk : k < 10) (h : Iso.okAt l k = false) : Ending.returned (.tuple #[.int .i64 0, .int .i64 10]) = .returned (.tuple #[.int .i64 (Iso.rdV l), .int .i64 (Iso.rdE l)]) := by
  rw [(Iso.sh_no hk h).1, (Iso.sh_no hk h).2]
set_option maxHeartbeats 8000000 in
theorem rread_ten (s : ByteArray) (hs : Hid (s.size = 10)) (w : World) : Calls Tryd.prog 31 #[.string s] w fun e w' => e = .returned (.tuple #[.int .i64 (Iso.rdV s.data.toList), .int .i64 (Iso.rdE s.data.toList)]) ∧ Below w.heap.size w w' := by
  have hne : (((s.size : Nat) : Int) != 10) = false := by rw [hs.out]; rfl
  go_enter Tryd.func31, Tryd.ntmps31
  go_wp2_with fail
  go_loopw [5, 6] (fun k i wr => ∃ n : Nat, n ≤ 10 ∧ i = .int .i64 n ∧ k = .int .i64 (Iso.kAt n) ∧ (∀ j, j < n → Iso.okAt s.data.toList j = true) ∧ rdSt s w n wr) (fun _ i _ => 10 - (intOf i).toNat)
  case atStart => exact ⟨0, by omega, rfl, rfl, fun j hj => absurd hj (by omega), 0, rfl⟩
  case round =>
    obtain ⟨n, hn, rfl, rfl, hall, hst⟩ := hrel
    have HA := Lib.hid hall; clear hall
    have hk' : n = 0 ∨ n = 1 ∨ n = 2 ∨ n = 3 ∨ n = 4 ∨ n = 5 ∨ n = 6 ∨ n = 7 ∨ n = 8 ∨ n = 9 ∨ n = 10 := by omega
    rcases hk' with rfl | rfl | rfl | rfl | rfl | rfl | rfl | rfl | rfl | rfl | rfl
    · have hix : ∀ W : World, (Instr.index 9 (.string s) (.int .i64 0)).run Tryd.prog W = .ok (.int .u8 (Iso.ch s.data.toList 0)) W := idx_at s 0 (by have := hs.out; omega)
      have hcb := Iso.ch_bd s.data.toList 0
      rw [show Iso.kAt 0 = 0 from rfl]
      obtain ⟨d, rfl⟩ := hst
      by_cases q1 : Iso.ch s.data.toList 0 < 48
      · have HK := Lib.hid (Iso.okAt_no (l := s.data.toList) (i := 0) (by omega) (Or.inl q1))
        generalize Iso.ch s.data.toList 0 = c at *
        go_wp2_with fail
        go_ret2
        exact ⟨ret_no (by omega) HK.out, by repeat (first | assumption | exact Below.refl _ _ | (with_reducible refine Below.drew ?_) | (with_reducible refine below_drewN' ?_ _) | (with_reducible refine below_al ?_) | ((with_reducible refine below_set ?_ ?_); rotate_left; focus (first | (simp; done) | (simp; omega))))⟩
      by_cases q2 : 57 < Iso.ch s.data.toList 0
      · have HK := Lib.hid (Iso.okAt_no (l := s.data.toList) (i := 0) (by omega) (Or.inr q2))
        generalize Iso.ch s.data.toList 0 = c at *
        go_wp2_with fail
        go_ret2
        exact ⟨ret_no (by omega) HK.out, by repeat (first | assumption | exact Below.refl _ _ | (with_reducible refine Below.drew ?_) | (with_reducible refine below_drewN' ?_ _) | (with_reducible refine below_al ?_) | ((with_reducible refine below_set ?_ ?_); rotate_left; focus (first | (simp; done) | (simp; omega))))⟩
      have HK := Lib.hid (Iso.okAt_mk (l := s.data.toList) (i := 0) (by omega) (by omega) (by omega))
      have hpb := Iso.pt_bd s.data.toList 0 0 (by omega) (fun i hi => Iso.okAt_dig (by omega) (HA.out _ (by omega)))
      have HN : Hid (Iso.A0 s.data.toList 1 = 10 * Iso.A0 s.data.toList 0 + Iso.ch s.data.toList 0 - 48) := Lib.hid rfl
      have hpb' : 0 ≤ Iso.A0 s.data.toList 0 ∧ Iso.A0 s.data.toList 0 ≤ 999 := hpb
      clear hpb
      generalize hA : Iso.A0 s.data.toList 0 = a at *; clear hA
      generalize hC : Iso.ch s.data.toList 0 = c at *; clear hC
      go_wp2_with fail
      go_region
      go_wp2_with fail
      go_roundw
      case rel => exact ⟨1, by omega, rfl, rfl, Iso.ok_next HA.out HK.out, d + 1, by rw [HN.out]; rfl⟩
      case measure => simp [intOf]
    · have hix : ∀ W : World, (Instr.index 9 (.string s) (.int .i64 1)).run Tryd.prog W = .ok (.int .u8 (Iso.ch s.data.toList 1)) W := idx_at s 1 (by have := hs.out; omega)
      have hcb := Iso.ch_bd s.data.toList 1
      rw [show Iso.kAt 1 = 0 from rfl]
      obtain ⟨d, rfl⟩ := hst
      by_cases q1 : Iso.ch s.data.toList 1 < 48
      · have HK := Lib.hid (Iso.okAt_no (l := s.data.toList) (i := 1) (by omega) (Or.inl q1))
        generalize Iso.ch s.data.toList 1 = c at *
        go_wp2_with fail
        go_ret2
        exact ⟨ret_no (by omega) HK.out, by repeat (first | assumption | exact Below.refl _ _ | (with_reducible refine Below.drew ?_) | (with_reducible refine below_drewN' ?_ _) | (with_reducible refine below_al ?_) | ((with_reducible refine below_set ?_ ?_); rotate_left; focus (first | (simp; done) | (simp; omega))))⟩
      by_cases q2 : 57 < Iso.ch s.data.toList 1
      · have HK := Lib.hid (Iso.okAt_no (l := s.data.toList) (i := 1) (by omega) (Or.inr q2))
        generalize Iso.ch s.data.toList 1 = c at *
        go_wp2_with fail
        go_ret2
        exact ⟨ret_no (by omega) HK.out, by repeat (first | assumption | exact Below.refl _ _ | (with_reducible refine Below.drew ?_) | (with_reducible refine below_drewN' ?_ _) | (with_reducible refine below_al ?_) | ((with_reducible refine below_set ?_ ?_); rotate_left; focus (first | (simp; done) | (simp; omega))))⟩
      have HK := Lib.hid (Iso.okAt_mk (l := s.data.toList) (i := 1) (by omega) (by omega) (by omega))
      have hpb := Iso.pt_bd s.data.toList 0 1 (by omega) (fun i hi => Iso.okAt_dig (by omega) (HA.out _ (by omega)))
      have HN : Hid (Iso.A0 s.data.toList 2 = 10 * Iso.A0 s.data.toList 1 + Iso.ch s.data.toList 1 - 48) := Lib.hid rfl
      have hpb' : 0 ≤ Iso.A0 s.data.toList 1 ∧ Iso.A0 s.data.toList 1 ≤ 999 := hpb
      clear hpb
      generalize hA : Iso.A0 s.data.toList 1 = a at *; clear hA
      generalize hC : Iso.ch s.data.toList 1 = c at *; clear hC
      go_wp2_with fail
      go_region
      go_wp2_with fail
      go_roundw
      case rel => exact ⟨2, by omega, rfl, rfl, Iso.ok_next HA.out HK.out, d + 1, by rw [HN.out]; rfl⟩
      case measure => simp [intOf]
    · have hix : ∀ W : World, (Instr.index 9 (.string s) (.int .i64 2)).run Tryd.prog W = .ok (.int .u8 (Iso.ch s.data.toList 2)) W := idx_at s 2 (by have := hs.out; omega)
      have hcb := Iso.ch_bd s.data.toList 2
      rw [show Iso.kAt 2 = 0 from rfl]
      obtain ⟨d, rfl⟩ := hst
      by_cases q1 : Iso.ch s.data.toList 2 < 48
      · have HK := Lib.hid (Iso.okAt_no (l := s.data.toList) (i := 2) (by omega) (Or.inl q1))
        generalize Iso.ch s.data.toList 2 = c at *
        go_wp2_with fail
        go_ret2
        exact ⟨ret_no (by omega) HK.out, by repeat (first | assumption | exact Below.refl _ _ | (with_reducible refine Below.drew ?_) | (with_reducible refine below_drewN' ?_ _) | (with_reducible refine below_al ?_) | ((with_reducible refine below_set ?_ ?_); rotate_left; focus (first | (simp; done) | (simp; omega))))⟩
      by_cases q2 : 57 < Iso.ch s.data.toList 2
      · have HK := Lib.hid (Iso.okAt_no (l := s.data.toList) (i := 2) (by omega) (Or.inr q2))
        generalize Iso.ch s.data.toList 2 = c at *
        go_wp2_with fail
        go_ret2
        exact ⟨ret_no (by omega) HK.out, by repeat (first | assumption | exact Below.refl _ _ | (with_reducible refine Below.drew ?_) | (with_reducible refine below_drewN' ?_ _) | (with_reducible refine below_al ?_) | ((with_reducible refine below_set ?_ ?_); rotate_left; focus (first | (simp; done) | (simp; omega))))⟩
      have HK := Lib.hid (Iso.okAt_mk (l := s.data.toList) (i := 2) (by omega) (by omega) (by omega))
      have hpb := Iso.pt_bd s.data.toList 0 2 (by omega) (fun i hi => Iso.okAt_dig (by omega) (HA.out _ (by omega)))
      have HN : Hid (Iso.A0 s.data.toList 3 = 10 * Iso.A0 s.data.toList 2 + Iso.ch s.data.toList 2 - 48) := Lib.hid rfl
      have hpb' : 0 ≤ Iso.A0 s.data.toList 2 ∧ Iso.A0 s.data.toList 2 ≤ 999 := hpb
      clear hpb
      generalize hA : Iso.A0 s.data.toList 2 = a at *; clear hA
      generalize hC : Iso.ch s.data.toList 2 = c at *; clear hC
      go_wp2_with fail
      go_region
      go_wp2_with fail
      go_roundw
      case rel => exact ⟨3, by omega, rfl, rfl, Iso.ok_next HA.out HK.out, d + 1, by rw [HN.out]; rfl⟩
      case measure => simp [intOf]
    · have hix : ∀ W : World, (Instr.index 9 (.string s) (.int .i64 3)).run Tryd.prog W = .ok (.int .u8 (Iso.ch s.data.toList 3)) W := idx_at s 3 (by have := hs.out; omega)
      have hcb := Iso.ch_bd s.data.toList 3
      rw [show Iso.kAt 3 = 0 from rfl]
      obtain ⟨d, rfl⟩ := hst
      by_cases q1 : Iso.ch s.data.toList 3 < 48
      · have HK := Lib.hid (Iso.okAt_no (l := s.data.toList) (i := 3) (by omega) (Or.inl q1))
        generalize Iso.ch s.data.toList 3 = c at *
        go_wp2_with fail
        go_ret2
        exact ⟨ret_no (by omega) HK.out, by repeat (first | assumption | exact Below.refl _ _ | (with_reducible refine Below.drew ?_) | (with_reducible refine below_drewN' ?_ _) | (with_reducible refine below_al ?_) | ((with_reducible refine below_set ?_ ?_); rotate_left; focus (first | (simp; done) | (simp; omega))))⟩
      by_cases q2 : 57 < Iso.ch s.data.toList 3
      · have HK := Lib.hid (Iso.okAt_no (l := s.data.toList) (i := 3) (by omega) (Or.inr q2))
        generalize Iso.ch s.data.toList 3 = c at *
        go_wp2_with fail
        go_ret2
        exact ⟨ret_no (by omega) HK.out, by repeat (first | assumption | exact Below.refl _ _ | (with_reducible refine Below.drew ?_) | (with_reducible refine below_drewN' ?_ _) | (with_reducible refine below_al ?_) | ((with_reducible refine below_set ?_ ?_); rotate_left; focus (first | (simp; done) | (simp; omega))))⟩
      have HK := Lib.hid (Iso.okAt_mk (l := s.data.toList) (i := 3) (by omega) (by omega) (by omega))
      have hpb := Iso.pt_bd s.data.toList 0 3 (by omega) (fun i hi => Iso.okAt_dig (by omega) (HA.out _ (by omega)))
      have HN : Hid (Iso.A0 s.data.toList 4 = 10 * Iso.A0 s.data.toList 3 + Iso.ch s.data.toList 3 - 48) := Lib.hid rfl
      have hpb' : 0 ≤ Iso.A0 s.data.toList 3 ∧ Iso.A0 s.data.toList 3 ≤ 999 := hpb
      clear hpb
      generalize hA : Iso.A0 s.data.toList 3 = a at *; clear hA
      generalize hC : Iso.ch s.data.toList 3 = c at *; clear hC
      go_wp2_with fail
      go_region
      go_wp2_with fail
      go_roundw
      case rel => exact ⟨4, by omega, rfl, rfl, Iso.ok_next HA.out HK.out, d + 1, by rw [HN.out]; rfl⟩
      case measure => simp [intOf]
    · have hix : ∀ W : World, (Instr.index 9 (.string s) (.int .i64 4)).run Tryd.prog W = .ok (.int .u8 (Iso.ch s.data.toList 4)) W := idx_at s 4 (by have := hs.out; omega)
      have hcb := Iso.ch_bd s.data.toList 4
      rw [show Iso.kAt 4 = 0 from rfl]
      obtain ⟨d, rfl⟩ := hst
      by_cases h45 : Iso.ch s.data.toList 4 = 45
      · have HK := Lib.hid (Iso.okAt_dash (by omega) h45)
        have hq : (Iso.ch s.data.toList 4 != 45) = false := by rw [h45]; rfl
        clear h45
        generalize Iso.ch s.data.toList 4 = c at *
        go_wp2_with fail
        go_roundw
        case rel => exact ⟨5, by omega, rfl, rfl, Iso.ok_next HA.out HK.out, d, rfl⟩
        case measure => simp [intOf]
      · have HK := Lib.hid (Iso.okAt_nodash (l := s.data.toList) (i := 4) (by omega) h45)
        have hq : (Iso.ch s.data.toList 4 != 45) = true := bne_iff_ne.2 h45
        clear h45
        generalize Iso.ch s.data.toList 4 = c at *
        go_wp2_with fail
        go_ret2
        exact ⟨ret_no (by omega) HK.out, by repeat (first | assumption | exact Below.refl _ _ | (with_reducible refine Below.drew ?_) | (with_reducible refine below_drewN' ?_ _) | (with_reducible refine below_al ?_) | ((with_reducible refine below_set ?_ ?_); rotate_left; focus (first | (simp; done) | (simp; omega))))⟩
    · have hix : ∀ W : World, (Instr.index 9 (.string s) (.int .i64 5)).run Tryd.prog W = .ok (.int .u8 (Iso.ch s.data.toList 5)) W := idx_at s 5 (by have := hs.out; omega)
      have hcb := Iso.ch_bd s.data.toList 5
      rw [show Iso.kAt 5 = 1 from rfl]
      obtain ⟨d, rfl⟩ := hst
      by_cases q1 : Iso.ch s.data.toList 5 < 48
      · have HK := Lib.hid (Iso.okAt_no (l := s.data.toList) (i := 5) (by omega) (Or.inl q1))
        generalize Iso.ch s.data.toList 5 = c at *
        go_wp2_with fail
        go_ret2
        exact ⟨ret_no (by omega) HK.out, by repeat (first | assumption | exact Below.refl _ _ | (with_reducible refine Below.drew ?_) | (with_reducible refine below_drewN' ?_ _) | (with_reducible refine below_al ?_) | ((with_reducible refine below_set ?_ ?_); rotate_left; focus (first | (simp; done) | (simp; omega))))⟩
      by_cases q2 : 57 < Iso.ch s.data.toList 5
      · have HK := Lib.hid (Iso.okAt_no (l := s.data.toList) (i := 5) (by omega) (Or.inr q2))
        generalize Iso.ch s.data.toList 5 = c at *
        go_wp2_with fail
        go_ret2
        exact ⟨ret_no (by omega) HK.out, by repeat (first | assumption | exact Below.refl _ _ | (with_reducible refine Below.drew ?_) | (with_reducible refine below_drewN' ?_ _) | (with_reducible refine below_al ?_) | ((with_reducible refine below_set ?_ ?_); rotate_left; focus (first | (simp; done) | (simp; omega))))⟩
      have HK := Lib.hid (Iso.okAt_mk (l := s.data.toList) (i := 5) (by omega) (by omega) (by omega))
      have hpb := Iso.pt_bd s.data.toList 5 0 (by omega) (fun i hi => Iso.okAt_dig (by omega) (HA.out _ (by omega)))
      have HN : Hid (Iso.A1 s.data.toList 6 = 10 * Iso.A1 s.data.toList 5 + Iso.ch s.data.toList 5 - 48) := Lib.hid rfl
      have hpb' : 0 ≤ Iso.A1 s.data.toList 5 ∧ Iso.A1 s.data.toList 5 ≤ 999 := hpb
      clear hpb
      generalize hA : Iso.A1 s.data.toList 5 = a at *; clear hA
      generalize hC : Iso.ch s.data.toList 5 = c at *; clear hC
      go_wp2_with fail
      go_region
      go_wp2_with fail
      go_roundw
      case rel => exact ⟨6, by omega, rfl, rfl, Iso.ok_next HA.out HK.out, d + 1, by rw [HN.out]; rfl⟩
      case measure => simp [intOf]
    · have hix : ∀ W : World, (Instr.index 9 (.string s) (.int .i64 6)).run Tryd.prog W = .ok (.int .u8 (Iso.ch s.data.toList 6)) W := idx_at s 6 (by have := hs.out; omega)
      have hcb := Iso.ch_bd s.data.toList 6
      rw [show Iso.kAt 6 = 1 from rfl]
      obtain ⟨d, rfl⟩ := hst
      by_cases q1 : Iso.ch s.data.toList 6 < 48
      · have HK := Lib.hid (Iso.okAt_no (l := s.data.toList) (i := 6) (by omega) (Or.inl q1))
        generalize Iso.ch s.data.toList 6 = c at *
        go_wp2_with fail
        go_ret2
        exact ⟨ret_no (by omega) HK.out, by repeat (first | assumption | exact Below.refl _ _ | (with_reducible refine Below.drew ?_) | (with_reducible refine below_drewN' ?_ _) | (with_reducible refine below_al ?_) | ((with_reducible refine below_set ?_ ?_); rotate_left; focus (first | (simp; done) | (simp; omega))))⟩
      by_cases q2 : 57 < Iso.ch s.data.toList 6
      · have HK := Lib.hid (Iso.okAt_no (l := s.data.toList) (i := 6) (by omega) (Or.inr q2))
        generalize Iso.ch s.data.toList 6 = c at *
        go_wp2_with fail
        go_ret2
        exact ⟨ret_no (by omega) HK.out, by repeat (first | assumption | exact Below.refl _ _ | (with_reducible refine Below.drew ?_) | (with_reducible refine below_drewN' ?_ _) | (with_reducible refine below_al ?_) | ((with_reducible refine below_set ?_ ?_); rotate_left; focus (first | (simp; done) | (simp; omega))))⟩
      have HK := Lib.hid (Iso.okAt_mk (l := s.data.toList) (i := 6) (by omega) (by omega) (by omega))
      have hpb := Iso.pt_bd s.data.toList 5 1 (by omega) (fun i hi => Iso.okAt_dig (by omega) (HA.out _ (by omega)))
      have HN : Hid (Iso.A1 s.data.toList 7 = 10 * Iso.A1 s.data.toList 6 + Iso.ch s.data.toList 6 - 48) := Lib.hid rfl
      have hpb' : 0 ≤ Iso.A1 s.data.toList 6 ∧ Iso.A1 s.data.toList 6 ≤ 999 := hpb
      clear hpb
      generalize hA : Iso.A1 s.data.toList 6 = a at *; clear hA
      generalize hC : Iso.ch s.data.toList 6 = c at *; clear hC
      go_wp2_with fail
      go_region
      go_wp2_with fail
      go_roundw
      case rel => exact ⟨7, by omega, rfl, rfl, Iso.ok_next HA.out HK.out, d + 1, by rw [HN.out]; rfl⟩
      case measure => simp [intOf]
    · have hix : ∀ W : World, (Instr.index 9 (.string s) (.int .i64 7)).run Tryd.prog W = .ok (.int .u8 (Iso.ch s.data.toList 7)) W := idx_at s 7 (by have := hs.out; omega)
      have hcb := Iso.ch_bd s.data.toList 7
      rw [show Iso.kAt 7 = 1 from rfl]
      obtain ⟨d, rfl⟩ := hst
      by_cases h45 : Iso.ch s.data.toList 7 = 45
      · have HK := Lib.hid (Iso.okAt_dash (by omega) h45)
        have hq : (Iso.ch s.data.toList 7 != 45) = false := by rw [h45]; rfl
        clear h45
        generalize Iso.ch s.data.toList 7 = c at *
        go_wp2_with fail
        go_roundw
        case rel => exact ⟨8, by omega, rfl, rfl, Iso.ok_next HA.out HK.out, d, rfl⟩
        case measure => simp [intOf]
      · have HK := Lib.hid (Iso.okAt_nodash (l := s.data.toList) (i := 7) (by omega) h45)
        have hq : (Iso.ch s.data.toList 7 != 45) = true := bne_iff_ne.2 h45
        clear h45
        generalize Iso.ch s.data.toList 7 = c at *
        go_wp2_with fail
        go_ret2
        exact ⟨ret_no (by omega) HK.out, by repeat (first | assumption | exact Below.refl _ _ | (with_reducible refine Below.drew ?_) | (with_reducible refine below_drewN' ?_ _) | (with_reducible refine below_al ?_) | ((with_reducible refine below_set ?_ ?_); rotate_left; focus (first | (simp; done) | (simp; omega))))⟩
    · have hix : ∀ W : World, (Instr.index 9 (.string s) (.int .i64 8)).run Tryd.prog W = .ok (.int .u8 (Iso.ch s.data.toList 8)) W := idx_at s 8 (by have := hs.out; omega)
      have hcb := Iso.ch_bd s.data.toList 8
      rw [show Iso.kAt 8 = 2 from rfl]
      obtain ⟨d, rfl⟩ := hst
      by_cases q1 : Iso.ch s.data.toList 8 < 48
      · have HK := Lib.hid (Iso.okAt_no (l := s.data.toList) (i := 8) (by omega) (Or.inl q1))
        generalize Iso.ch s.data.toList 8 = c at *
        go_wp2_with fail
        go_ret2
        exact ⟨ret_no (by omega) HK.out, by repeat (first | assumption | exact Below.refl _ _ | (with_reducible refine Below.drew ?_) | (with_reducible refine below_drewN' ?_ _) | (with_reducible refine below_al ?_) | ((with_reducible refine below_set ?_ ?_); rotate_left; focus (first | (simp; done) | (simp; omega))))⟩
      by_cases q2 : 57 < Iso.ch s.data.toList 8
      · have HK := Lib.hid (Iso.okAt_no (l := s.data.toList) (i := 8) (by omega) (Or.inr q2))
        generalize Iso.ch s.data.toList 8 = c at *
        go_wp2_with fail
        go_ret2
        exact ⟨ret_no (by omega) HK.out, by repeat (first | assumption | exact Below.refl _ _ | (with_reducible refine Below.drew ?_) | (with_reducible refine below_drewN' ?_ _) | (with_reducible refine below_al ?_) | ((with_reducible refine below_set ?_ ?_); rotate_left; focus (first | (simp; done) | (simp; omega))))⟩
      have HK := Lib.hid (Iso.okAt_mk (l := s.data.toList) (i := 8) (by omega) (by omega) (by omega))
      have hpb := Iso.pt_bd s.data.toList 8 0 (by omega) (fun i hi => Iso.okAt_dig (by omega) (HA.out _ (by omega)))
      have HN : Hid (Iso.A2 s.data.toList 9 = 10 * Iso.A2 s.data.toList 8 + Iso.ch s.data.toList 8 - 48) := Lib.hid rfl
      have hpb' : 0 ≤ Iso.A2 s.data.toList 8 ∧ Iso.A2 s.data.toList 8 ≤ 999 := hpb
      clear hpb
      generalize hA : Iso.A2 s.data.toList 8 = a at *; clear hA
      generalize hC : Iso.ch s.data.toList 8 = c at *; clear hC
      go_wp2_with fail
      go_region
      go_wp2_with fail
      go_roundw
      case rel => exact ⟨9, by omega, rfl, rfl, Iso.ok_next HA.out HK.out, d + 1, by rw [HN.out]; rfl⟩
      case measure => simp [intOf]
    · have hix : ∀ W : World, (Instr.index 9 (.string s) (.int .i64 9)).run Tryd.prog W = .ok (.int .u8 (Iso.ch s.data.toList 9)) W := idx_at s 9 (by have := hs.out; omega)
      have hcb := Iso.ch_bd s.data.toList 9
      rw [show Iso.kAt 9 = 2 from rfl]
      obtain ⟨d, rfl⟩ := hst
      by_cases q1 : Iso.ch s.data.toList 9 < 48
      · have HK := Lib.hid (Iso.okAt_no (l := s.data.toList) (i := 9) (by omega) (Or.inl q1))
        generalize Iso.ch s.data.toList 9 = c at *
        go_wp2_with fail
        go_ret2
        exact ⟨ret_no (by omega) HK.out, by repeat (first | assumption | exact Below.refl _ _ | (with_reducible refine Below.drew ?_) | (with_reducible refine below_drewN' ?_ _) | (with_reducible refine below_al ?_) | ((with_reducible refine below_set ?_ ?_); rotate_left; focus (first | (simp; done) | (simp; omega))))⟩
      by_cases q2 : 57 < Iso.ch s.data.toList 9
      · have HK := Lib.hid (Iso.okAt_no (l := s.data.toList) (i := 9) (by omega) (Or.inr q2))
        generalize Iso.ch s.data.toList 9 = c at *
        go_wp2_with fail
        go_ret2
        exact ⟨ret_no (by omega) HK.out, by repeat (first | assumption | exact Below.refl _ _ | (with_reducible refine Below.drew ?_) | (with_reducible refine below_drewN' ?_ _) | (with_reducible refine below_al ?_) | ((with_reducible refine below_set ?_ ?_); rotate_left; focus (first | (simp; done) | (simp; omega))))⟩
      have HK := Lib.hid (Iso.okAt_mk (l := s.data.toList) (i := 9) (by omega) (by omega) (by omega))
      have hpb := Iso.pt_bd s.data.toList 8 1 (by omega) (fun i hi => Iso.okAt_dig (by omega) (HA.out _ (by omega)))
      have HN : Hid (Iso.A2 s.data.toList 10 = 10 * Iso.A2 s.data.toList 9 + Iso.ch s.data.toList 9 - 48) := Lib.hid rfl
      have hpb' : 0 ≤ Iso.A2 s.data.toList 9 ∧ Iso.A2 s.data.toList 9 ≤ 999 := hpb
      clear hpb
      generalize hA : Iso.A2 s.data.toList 9 = a at *; clear hA
      generalize hC : Iso.ch s.data.toList 9 = c at *; clear hC
      go_wp2_with fail
      go_region
      go_wp2_with fail
      go_roundw
      case rel => exact ⟨10, by omega, rfl, rfl, Iso.ok_next HA.out HK.out, d + 1, by rw [HN.out]; rfl⟩
      case measure => simp [intOf]
    · obtain ⟨d, rfl⟩ := hst
      obtain ⟨p0, p1, p2⟩ := Iso.pt_end s.data.toList
      have hsh : Iso.shB s.data.toList = true := Iso.ok_all (by rw [Iso.len_byte]; exact hs.out) HA.out
      obtain ⟨e1, e2⟩ := Iso.sh_yes hsh
      clear hsh
      rw [p0, p1, p2]
      have E1 := Lib.hid e1; have E2 := Lib.hid e2
      clear e1 e2 p0 p1 p2
      have hB : Below w.heap.size w w := Below.refl _ _
      cases hm : Cal.mayB (Iso.rY s.data.toList) (Iso.rM s.data.toList) (Iso.rD s.data.toList)
      · have F1 := Lib.hid (E1.out.trans (numV_no hm).1); have F2 := Lib.hid (E2.out.trans (numV_no hm).2)
        have hm' := Lib.hid hm; clear hm
        go_wp2_with fail
        refine (rnumber_no _ _ _ _ hm'.out).mono ?_; rintro e w1 ⟨rfl, hb1⟩
        have hz1 := hb1.size; (try simp at hz1); obtain ⟨hc1, hf1⟩ := bcell hb1; have hB1 := below_step (w := w) hb1 (by repeat (first | assumption | exact Below.refl _ _ | (with_reducible refine Below.drew ?_) | (with_reducible refine below_drewN' ?_ _) | (with_reducible refine below_al ?_) | ((with_reducible refine below_set ?_ ?_); rotate_left; focus (first | (simp; done) | (simp; omega)))))
        have le_w_w1 : w.heap.size ≤ w1.heap.size := by omega
        try have lt_w_w1 : w.heap.size < w1.heap.size := by omega
        go_wp2_with fail
        go_ret2
        exact ⟨by rw [F1.out, F2.out] <;> rfl, by repeat (first | assumption | exact Below.refl _ _ | (with_reducible refine Below.drew ?_) | (with_reducible refine below_drewN' ?_ _) | (with_reducible refine below_al ?_) | ((with_reducible refine below_set ?_ ?_); rotate_left; focus (first | (simp; done) | (simp; omega))))⟩
      · have F1 := Lib.hid (E1.out.trans (numV_yes hm).1); have F2 := Lib.hid (E2.out.trans (numV_yes hm).2)
        have hm' := Lib.hid hm; clear hm
        go_wp2_with fail
        refine (rnumber_yes _ _ _ _ hm'.out).mono ?_; rintro e w1 ⟨rfl, hb1⟩
        have hz1 := hb1.size; (try simp at hz1); obtain ⟨hc1, hf1⟩ := bcell hb1; have hB1 := below_step (w := w) hb1 (by repeat (first | assumption | exact Below.refl _ _ | (with_reducible refine Below.drew ?_) | (with_reducible refine below_drewN' ?_ _) | (with_reducible refine below_al ?_) | ((with_reducible refine below_set ?_ ?_); rotate_left; focus (first | (simp; done) | (simp; omega)))))
        have le_w_w1 : w.heap.size ≤ w1.heap.size := by omega
        try have lt_w_w1 : w.heap.size < w1.heap.size := by omega
        go_wp2_with fail
        go_ret2
        exact ⟨by rw [F1.out, F2.out] <;> rfl, by repeat (first | assumption | exact Below.refl _ _ | (with_reducible refine Below.drew ?_) | (with_reducible refine below_drewN' ?_ _) | (with_reducible refine below_al ?_) | ((with_reducible refine below_set ?_ ?_); rotate_left; focus (first | (simp; done) | (simp; omega))))⟩
theorem rread_c (s : ByteArray) (w : World) : Calls Tryd.prog 31 #[.string s] w fun e w' => e = .returned (.tuple #[.int .i64 (Iso.rdV s.data.toList), .int .i64 (Iso.rdE s.data.toList)]) ∧ Below w.heap.size w w' := by
  by_cases h : s.size = 10
  · exact rread_ten s h w
  · have hn := Iso.ok_len (l := s.data.toList) (by rw [Iso.len_byte]; exact h)
    have e1 : Iso.rdV s.data.toList = 0 := by unfold Iso.rdV; rw [if_neg (by rw [hn]; decide)]
    have e2 : Iso.rdE s.data.toList = 10 := by unfold Iso.rdE; rw [if_neg (by rw [hn]; decide)]
    rw [e1, e2]
    have hne : (((s.size : Nat) : Int) != 10) = true := by rw [bne_iff_ne]; omega
    clear e1 e2 hn h
    go_enter Tryd.func31, Tryd.ntmps31
    go_wp2_with fail
    go_ret2
    exact ⟨rfl, Below.refl _ _⟩
end Go.Proofs.YtmaocplnikijnaaDoor
