/- The contract of a text's form: has a text the form of a day? Conditions: none. -/
import Derived.Test.YtmaocplnikijnaaDoorIsoA
namespace Go.Proofs.YtmaocplnikijnaaDoor
open Go.RowKit
set_option linter.unusedVariables false

namespace Iso
theorem ok_all {l : List UInt8} (h1 : l.length = 10) (h2 : ∀ i, i < 10 → okAt l i = true) : shB l = true := (sh_iff l).2 ⟨h1, h2⟩
theorem ok_not {l : List UInt8} {k : Nat} (hk : k < 10) (h : okAt l k = false) : shB l = false := by
  cases c : shB l
  · rfl
  · rw [((sh_iff l).1 c).2 k hk] at h; cases h
theorem ok_len {l : List UInt8} (h : l.length ≠ 10) : shB l = false := by
  cases c : shB l
  · rfl
  · exact absurd ((sh_iff l).1 c).1 h
end Iso

theorem shaped_len (s : ByteArray) (h : (((s.size : Nat) : Int) == 10) = false) (w : World) :
    Calls Tryd.prog 50 #[.string s] w fun e w' => e = .returned (.bool false) ∧ Below w.heap.size w w' := by
  have h' : (((s.size : Nat) : Int) != 10) = true := by simp [bne, h]
  go_enter Tryd.func50, Tryd.ntmps50
  go_wp2_with fail
  go_ret
  exact ⟨rfl, Below.refl _ _⟩

theorem form_at0 (W : World) : (Instr.index 9 (.string ⟨#[48, 48, 48, 48, 45, 48, 48, 45, 48, 48]⟩) (.int .i64 ((0 : Nat) : Int))).run Tryd.prog W = .ok (.int .u8 48) W := by kernel_rfl
theorem form_at1 (W : World) : (Instr.index 9 (.string ⟨#[48, 48, 48, 48, 45, 48, 48, 45, 48, 48]⟩) (.int .i64 ((1 : Nat) : Int))).run Tryd.prog W = .ok (.int .u8 48) W := by kernel_rfl
theorem form_at2 (W : World) : (Instr.index 9 (.string ⟨#[48, 48, 48, 48, 45, 48, 48, 45, 48, 48]⟩) (.int .i64 ((2 : Nat) : Int))).run Tryd.prog W = .ok (.int .u8 48) W := by kernel_rfl
theorem form_at3 (W : World) : (Instr.index 9 (.string ⟨#[48, 48, 48, 48, 45, 48, 48, 45, 48, 48]⟩) (.int .i64 ((3 : Nat) : Int))).run Tryd.prog W = .ok (.int .u8 48) W := by kernel_rfl
theorem form_at4 (W : World) : (Instr.index 9 (.string ⟨#[48, 48, 48, 48, 45, 48, 48, 45, 48, 48]⟩) (.int .i64 ((4 : Nat) : Int))).run Tryd.prog W = .ok (.int .u8 45) W := by kernel_rfl
theorem form_at5 (W : World) : (Instr.index 9 (.string ⟨#[48, 48, 48, 48, 45, 48, 48, 45, 48, 48]⟩) (.int .i64 ((5 : Nat) : Int))).run Tryd.prog W = .ok (.int .u8 48) W := by kernel_rfl
theorem form_at6 (W : World) : (Instr.index 9 (.string ⟨#[48, 48, 48, 48, 45, 48, 48, 45, 48, 48]⟩) (.int .i64 ((6 : Nat) : Int))).run Tryd.prog W = .ok (.int .u8 48) W := by kernel_rfl
theorem form_at7 (W : World) : (Instr.index 9 (.string ⟨#[48, 48, 48, 48, 45, 48, 48, 45, 48, 48]⟩) (.int .i64 ((7 : Nat) : Int))).run Tryd.prog W = .ok (.int .u8 45) W := by kernel_rfl
theorem form_at8 (W : World) : (Instr.index 9 (.string ⟨#[48, 48, 48, 48, 45, 48, 48, 45, 48, 48]⟩) (.int .i64 ((8 : Nat) : Int))).run Tryd.prog W = .ok (.int .u8 48) W := by kernel_rfl
theorem form_at9 (W : World) : (Instr.index 9 (.string ⟨#[48, 48, 48, 48, 45, 48, 48, 45, 48, 48]⟩) (.int .i64 ((9 : Nat) : Int))).run Tryd.prog W = .ok (.int .u8 48) W := by kernel_rfl
theorem form_dash (k : Nat) (h : k = 4 ∨ k = 7) (W : World) : (Instr.index 9 (.string ⟨#[48, 48, 48, 48, 45, 48, 48, 45, 48, 48]⟩) (.int .i64 (k : Int))).run Tryd.prog W = .ok (.int .u8 45) W := by
  rcases h with rfl | rfl
  · exact form_at4 W
  · exact form_at7 W
theorem form_dig (k : Nat) (hk : k < 10) (h : ¬ (k = 4 ∨ k = 7)) (W : World) : (Instr.index 9 (.string ⟨#[48, 48, 48, 48, 45, 48, 48, 45, 48, 48]⟩) (.int .i64 (k : Int))).run Tryd.prog W = .ok (.int .u8 48) W := by
  have hk' : k = 0 ∨ k = 1 ∨ k = 2 ∨ k = 3 ∨ k = 5 ∨ k = 6 ∨ k = 8 ∨ k = 9 := by omega
  rcases hk' with rfl | rfl | rfl | rfl | rfl | rfl | rfl | rfl
  · exact form_at0 W
  · exact form_at1 W
  · exact form_at2 W
  · exact form_at3 W
  · exact form_at5 W
  · exact form_at6 W
  · exact form_at8 W
  · exact form_at9 W
set_option maxHeartbeats 2000000 in
theorem shaped_ten (s : ByteArray) (hs : (((s.size : Nat) : Int) == 10) = true) (w : World) :
    Calls Tryd.prog 50 #[.string s] w fun e w' => e = .returned (.bool (Iso.shB s.data.toList)) ∧ Below w.heap.size w w' := by
  have H10 : Hid (s.size = 10) := Lib.hid (by have h : ((s.size : Nat) : Int) = 10 := (by simpa using hs); omega)
  have hs' : (((s.size : Nat) : Int) != 10) = false := by simp [bne, hs]
  clear hs
  go_enter Tryd.func50, Tryd.ntmps50
  go_wp2_with fail
  go_loopw [] (fun wr => ∃ k : Nat, k ≤ 10 ∧ (∀ i, i < k → Iso.okAt s.data.toList i = true) ∧ wr = w.iter s k) (fun wr => 10 - wr.iterPos w.heap.size)
  case atStart => exact ⟨0, by omega, fun i hi => absurd hi (by omega), rfl⟩
  case round =>
    obtain ⟨k, hk, hall, rfl⟩ := hrel
    have HA := Lib.hid hall; clear hall
    by_cases hlt : k < 10
    · have hlt' : k < s.size := by have := H10.out; omega
      have hg := Lib.hid (Iso.getD_byte s k hlt')
      have hok : Hid (Iso.okAt s.data.toList k = Iso.okC k s[k]) := Lib.hid (by unfold Iso.okAt; rw [hg.out])
      by_cases ha : (s[k].toNat) < 128
      · have hnx := fun ty => run_next_ascii (P := Tryd.prog) w s k ty hlt' ha
        generalize hcc : s[k] = c at *
        clear hcc
        by_cases hd : k = 4 ∨ k = 7
        · have hix := form_dash k hd
          have HD := Lib.hid hd; clear hd
          by_cases h45 : (c.toNat : Int) = 45
          · have hne : (((c.toNat : Nat) : Int) != 45) = false := by simp [bne, h45]
            have hl : ((c.toNat : Nat) : Int) < 48 := by omega
            have HK : Hid (Iso.okAt s.data.toList k = true) := Lib.hid (by rw [hok.out, Iso.okC_dash HD.out]; exact decide_eq_true h45)
            clear h45
            go_wp2_with fail
            go_roundw
            case rel => exact ⟨k + 1, by omega, fun i hi => (by by_cases e : i = k; (subst e; exact HK.out); exact HA.out i (by omega)), rfl⟩
            case measure => simp; omega
          · have hne : (((c.toNat : Nat) : Int) != 45) = true := by simpa [bne] using h45
            have HK : Hid (Iso.shB s.data.toList = false) := Lib.hid (Iso.ok_not hlt (by rw [hok.out, Iso.okC_dash HD.out]; exact decide_eq_false h45))
            clear h45
            by_cases q1 : 48 ≤ ((c.toNat : Nat) : Int)
            · by_cases q2 : ((c.toNat : Nat) : Int) ≤ 57
              all_goals
                go_wp2_with fail
                go_ret
                exact ⟨by rw [HK.out] <;> rfl, (Below.refl _ _).alloc (Nat.le_refl _) _⟩
            · go_wp2_with fail
              go_ret
              exact ⟨by rw [HK.out] <;> rfl, (Below.refl _ _).alloc (Nat.le_refl _) _⟩
        · have hix := form_dig k hlt hd
          by_cases q : 48 ≤ ((c.toNat : Nat) : Int) ∧ ((c.toNat : Nat) : Int) ≤ 57
          · obtain ⟨q1, q2⟩ := q
            have HK : Hid (Iso.okAt s.data.toList k = true) := Lib.hid (by rw [hok.out, Iso.okC_dig hd]; exact decide_eq_true ⟨q1, q2⟩)
            clear hd
            go_wp2_with fail
            go_roundw
            case rel => exact ⟨k + 1, by omega, fun i hi => (by by_cases e : i = k; (subst e; exact HK.out); exact HA.out i (by omega)), rfl⟩
            case measure => simp; omega
          · have HK : Hid (Iso.shB s.data.toList = false) := Lib.hid (Iso.ok_not hlt (by rw [hok.out, Iso.okC_dig hd]; exact decide_eq_false q))
            clear hd
            by_cases q1 : 48 ≤ ((c.toNat : Nat) : Int)
            · have q2 : ¬ ((c.toNat : Nat) : Int) ≤ 57 := fun h => q ⟨q1, h⟩
              clear q
              go_wp2_with fail
              go_ret
              exact ⟨by rw [HK.out] <;> rfl, (Below.refl _ _).alloc (Nat.le_refl _) _⟩
            · clear q
              go_wp2_with fail
              go_ret
              exact ⟨by rw [HK.out] <;> rfl, (Below.refl _ _).alloc (Nat.le_refl _) _⟩
      · have hnx := fun ty => run_next_any (P := Tryd.prog) w s k ty hlt'
        obtain ⟨g1, g2⟩ := decode_high s k hlt' (by omega)
        have HK : Hid (Iso.shB s.data.toList = false) := Lib.hid (Iso.ok_not hlt (by
          rw [hok.out]; unfold Iso.okC; split
          · exact decide_eq_false (by omega)
          · exact decide_eq_false (by omega)))
        generalize (Utf8.decode s k).1 = c at *
        generalize (Utf8.decode s k).2 = p at *
        have q1 : 48 ≤ ((c : Nat) : Int) := by omega
        have q2 : ¬ ((c : Nat) : Int) ≤ 57 := by omega
        have hne : (((c : Nat) : Int) != 45) = true := by rw [bne_iff_ne]; omega
        by_cases hd : k = 4 ∨ k = 7
        · have hix := form_dash k hd
          clear hd
          go_wp2_with fail
          go_ret
          exact ⟨by rw [HK.out] <;> rfl, (Below.refl _ _).alloc (Nat.le_refl _) _⟩
        · have hix := form_dig k hlt hd
          clear hd
          go_wp2_with fail
          go_ret
          exact ⟨by rw [HK.out] <;> rfl, (Below.refl _ _).alloc (Nat.le_refl _) _⟩
    · have hke : k = s.size := by have := H10.out; omega
      have hnx := fun ty => run_next_end (P := Tryd.prog) w s k ty (by omega)
      have HK : Hid (Iso.shB s.data.toList = true) := Lib.hid (Iso.ok_all (by rw [Iso.len_byte]; exact H10.out) (fun i hi => HA.out i (by omega)))
      clear hke
      go_wp2_with fail
      go_ret
      exact ⟨by rw [HK.out] <;> rfl, (Below.refl _ _).alloc (Nat.le_refl _) _⟩
theorem shaped_c (s : ByteArray) (w : World) : Calls Tryd.prog 50 #[.string s] w fun e w' => e = .returned (.bool (Iso.shB s.data.toList)) ∧ Below w.heap.size w w' := by
  cases h : (((s.size : Nat) : Int) == 10)
  · have := Iso.ok_len (l := s.data.toList) (by rw [Iso.len_byte]; intro e; rw [e] at h; simp at h)
    rw [this]
    exact shaped_len s h w
  · exact shaped_ten s h w
end Go.Proofs.YtmaocplnikijnaaDoor
