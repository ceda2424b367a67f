/- The contracts of the loops over texts: the digits of a number read, and a text's form. Conditions: none but what each asks of its text. -/
import Derived.Test.YtmaocplnikijnaaDoorIso
import Derived.Laws.RangeAny
import Derived.Outline
namespace Go.Proofs.YtmaocplnikijnaaDoor
open Go.RowKit
set_option linter.unusedVariables false

namespace Iso
def nmTo (l : List UInt8) : Nat → Int
  | 0 => 0
  | k + 1 => 10 * nmTo l k + (((l.getD k 0).toNat : Int) - 48)
theorem nm_bd (l : List UInt8) : ∀ k : Nat, k ≤ 3 → (∀ i, i < k → 48 ≤ ((l.getD i 0).toNat : Int) ∧ ((l.getD i 0).toNat : Int) ≤ 57) → 0 ≤ nmTo l k ∧ nmTo l k ≤ 999 := by
  intro k hk h
  have hk' : k = 0 ∨ k = 1 ∨ k = 2 ∨ k = 3 := by omega
  rcases hk' with rfl | rfl | rfl | rfl
  · simp [nmTo]
  · have := h 0 (by omega); simp only [nmTo]; omega
  · have := h 0 (by omega); have := h 1 (by omega); simp only [nmTo]; omega
  · have := h 0 (by omega); have := h 1 (by omega); have := h 2 (by omega); simp only [nmTo]; omega
theorem len_byte (s : ByteArray) : s.data.toList.length = s.size := by show s.data.toList.length = s.data.size; simp
theorem getD_byte (s : ByteArray) (i : Nat) (h : i < s.size) : s.data.toList.getD i 0 = s[i] := by
  have hl : i < s.data.toList.length := by rw [len_byte]; exact h
  rw [List.getD_eq_getElem?_getD, List.getElem?_eq_getElem hl]; rfl
end Iso

set_option maxHeartbeats 1000000 in
theorem number_txt (s : ByteArray) (hs : s.size ≤ 4) (hd : Hid (∀ i : Nat, i < s.size → 48 ≤ ((s.data.toList.getD i 0).toNat : Int) ∧ ((s.data.toList.getD i 0).toNat : Int) ≤ 57)) (w : World) :
    Calls Tryd.prog 51 #[.string s] w fun e w' => e = .returned (.int .i64 (Iso.nmTo s.data.toList s.size)) ∧ Below w.heap.size w w' := by
  go_enter Tryd.func51, Tryd.ntmps51
  go_wp2_with fail
  go_loopw [3] (fun n wr => ∃ k : Nat, k ≤ s.size ∧ n = .int .i64 (Iso.nmTo s.data.toList k) ∧ wr = w.iter s k) (fun _ wr => s.size - wr.iterPos w.heap.size)
  case atStart => exact ⟨0, Nat.zero_le _, rfl, rfl⟩
  case round =>
    obtain ⟨k, hk, rfl, rfl⟩ := hrel
    by_cases hlt : k < s.size
    · have hc := hd.out k hlt
      have hb := Iso.nm_bd s.data.toList k (by omega) (fun i hi => hd.out i (by omega))
      have hg := Lib.hid (Iso.getD_byte s k hlt)
      have hnx := fun ty => run_next_ascii (P := Tryd.prog) w s k ty hlt (by rw [← hg.out]; omega)
      rw [hg.out] at hc
      go_wp2_with fail
      go_roundw
      case rel => exact ⟨k + 1, by omega, by rw [Iso.nmTo, hg.out], rfl⟩
      case measure => simp; omega
    · have hnx := fun ty => run_next_end (P := Tryd.prog) w s k ty hlt
      have hke : k = s.size := by omega
      subst hke
      go_wp2_with fail
      go_ret
      exact ⟨rfl, (Below.refl _ _).alloc (Nat.le_refl _) _⟩
end Go.Proofs.YtmaocplnikijnaaDoor
