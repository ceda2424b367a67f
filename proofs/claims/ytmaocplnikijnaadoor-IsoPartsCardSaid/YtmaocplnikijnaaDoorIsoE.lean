/- The contracts of texts that are read: the program's. Conditions: the table of months' lengths lies as the program's text lays it. -/
import Derived.Test.YtmaocplnikijnaaDoorIsoD
import Derived.Laws.Strings2
namespace Go.Proofs.YtmaocplnikijnaaDoor
open Go.RowKit
set_option linter.unusedVariables false

namespace Iso
theorem ext_size (s : ByteArray) (a b : Nat) (h : b ≤ s.size) : (s.extract a b).size = b - a := by
  rw [ByteArray.size_extract]; omega
theorem ext_getD (s : ByteArray) (a b i : Nat) (h : b ≤ s.size) (hi : i < b - a) : (s.extract a b).data.toList.getD i 0 = s.data.toList.getD (a + i) 0 := by
  have h1 : (s.extract a b).size = b - a := ext_size s a b h
  rw [getD_byte _ i (by omega), getD_byte _ (a + i) (by omega)]
  exact ByteArray.getElem_extract ..
end Iso
theorem number_at (s : ByteArray) (a b : Nat) (hb : b ≤ s.size) (hl : b - a ≤ 4) (h : Hid (∀ i : Nat, a ≤ i → i < b → 48 ≤ Iso.ch s.data.toList i ∧ Iso.ch s.data.toList i ≤ 57)) (w : World) :
    Calls Tryd.prog 51 #[.string (s.extract a b)] w fun e w' => e = .returned (.int .i64 (Iso.nmTo (s.extract a b).data.toList (b - a))) ∧ Below w.heap.size w w' := by
  have := number_txt (s.extract a b) (by rw [Iso.ext_size s a b hb]; exact hl) (fun i hi => by
    rw [Iso.ext_size s a b hb] at hi
    rw [Iso.ext_getD s a b i hb hi]
    exact h.out (a + i) (by omega) (by omega)) w
  rw [Iso.ext_size s a b hb] at this
  exact this
theorem nm4 (s : ByteArray) (h : 4 ≤ s.size) : Iso.nmTo (s.extract 0 4).data.toList (4 - 0) = Iso.rY s.data.toList := by
  have g := fun i hi => Iso.ext_getD s 0 4 i h hi
  have g0 := g 0 (by omega); have g1 := g 1 (by omega); have g2 := g 2 (by omega); have g3 := g 3 (by omega)
  show Iso.nmTo _ 4 = _
  simp only [Iso.nmTo, g0, g1, g2, g3, Iso.rY, Iso.ch, Nat.zero_add]; omega
theorem nm2 (s : ByteArray) (a b : Nat) (hb : b = a + 2) (h : b ≤ s.size) : Iso.nmTo (s.extract a b).data.toList (b - a) = 10 * (Iso.ch s.data.toList a - 48) + (Iso.ch s.data.toList (a + 1) - 48) := by
  subst hb
  have g := fun i hi => Iso.ext_getD s a (a + 2) i h hi
  have g0 := g 0 (by omega); have g1 := g 1 (by omega)
  rw [show a + 2 - a = 2 from by omega]
  simp only [Iso.nmTo, g0, g1, Iso.ch, Nat.add_zero]; omega
theorem number_y (s : ByteArray) (hs : Hid (s.size = 10)) (h : Hid (Iso.shB s.data.toList = true)) (w : World) : Calls Tryd.prog 51 #[.string (s.extract 0 4)] w fun e w' => e = .returned (.int .i64 (Iso.rY s.data.toList)) ∧ Below w.heap.size w w' := by
  have h10 := hs.out
  rw [← nm4 s (by omega)]
  exact number_at s 0 4 (by omega) (by omega) (fun i h1 h2 => Iso.sh_dig h.out i (by omega) (by omega)) w
theorem number_m (s : ByteArray) (hs : Hid (s.size = 10)) (h : Hid (Iso.shB s.data.toList = true)) (w : World) : Calls Tryd.prog 51 #[.string (s.extract 5 7)] w fun e w' => e = .returned (.int .i64 (Iso.rM s.data.toList)) ∧ Below w.heap.size w w' := by
  have h10 := hs.out
  have := nm2 s 5 7 rfl (by omega)
  unfold Iso.rM; rw [← this]
  exact number_at s 5 7 (by omega) (by omega) (fun i h1 h2 => Iso.sh_dig h.out i (by omega) (by omega)) w
theorem number_d (s : ByteArray) (hs : Hid (s.size = 10)) (h : Hid (Iso.shB s.data.toList = true)) (w : World) : Calls Tryd.prog 51 #[.string (s.extract 8 s.size)] w fun e w' => e = .returned (.int .i64 (Iso.rD s.data.toList)) ∧ Below w.heap.size w w' := by
  have h10 := hs.out
  rw [h10]
  have := nm2 s 8 10 rfl (by omega)
  unfold Iso.rD; rw [← this]
  exact number_at s 8 10 (by omega) (by omega) (fun i h1 h2 => Iso.sh_dig h.out i (by omega) (by omega)) w
set_option maxHeartbeats 2000000 in
theorem read_yes (s : ByteArray) (hs : Hid (s.size = 10)) (h : Iso.shB s.data.toList = true) (w : World) (hL : Laid w) : Calls Tryd.prog 30 #[.string s] w fun e w' => e = .returned (.tuple #[.int .i64 (numV (Iso.rY s.data.toList) (Iso.rM s.data.toList) (Iso.rD s.data.toList)), .int .i64 (numE (Iso.rY s.data.toList) (Iso.rM s.data.toList) (Iso.rD s.data.toList))]) ∧ Below w.heap.size w w' := by
  have h4 : (4 : Int) ≤ s.size := by have := hs.out; omega
  have h7 : 7 ≤ s.size := by have := hs.out; omega
  have h8 : 8 ≤ s.size := by have := hs.out; omega
  have h10 : s.size ≤ 10 := by have := hs.out; omega
  have H := Lib.hid h
  have hsl := fun W : World => run_slice_string (P := Tryd.prog) W 9 s .i64 .i64 5 7 Tryd.underlying9 (by decide) (by decide) (by omega)
  have hsl1 := fun W : World => run_slice_string_h (P := Tryd.prog) W 9 s Tryd.underlying9 .i64 4 (by decide) (by omega)
  have hsl2 := fun W : World => run_slice_string_l (P := Tryd.prog) W 9 s Tryd.underlying9 .i64 8 (by decide) (by omega)
  have hB : Below w.heap.size w w := Below.refl _ _
  go_enter Tryd.func30, Tryd.ntmps30
  go_wp2_with fail
  refine (shaped_c _ _).mono ?_; rintro e w1 ⟨rfl, hb1⟩
  have hz1 := hb1.size; (try simp at hz1); obtain ⟨hc1, hf1⟩ := bcell hb1; have hB1 := below_step (w := w) hb1 (by repeat (first | assumption | exact Below.refl _ _ | (with_reducible refine Below.drew ?_) | (with_reducible refine below_drewN' ?_ _) | (with_reducible refine below_al ?_) | ((with_reducible refine below_set ?_ ?_); rotate_left; focus (first | (simp; done) | (simp; omega)))))
  have le_w_w1 : w.heap.size ≤ w1.heap.size := by omega
  try have lt_w_w1 : w.heap.size < w1.heap.size := by omega
  go_wp2_with fail
  go_region_held3 (fun w' => Below w.heap.size w w')
    (first | exact Below.drew hB1 | exact below_step hb (by assumption) | exact below_al (by assumption) | go_keep)
    (first | (go_at_call 51; ((with_reducible refine (number_y s hs H _).mono ?_); rintro e wn ⟨rfl, hb⟩)) | (go_at_call 51; ((with_reducible refine (number_m s hs H _).mono ?_); rintro e wn ⟨rfl, hb⟩)) | (go_at_call 51; ((with_reducible refine (number_d s hs H _).mono ?_); rintro e wn ⟨rfl, hb⟩)) | (go_at_call 16; refine (number_c _ _ _ _ (hL.below (by assumption))).mono ?_; rintro e wn ⟨rfl, hb⟩))
  rename World => w2
  go_wp2_with fail
  go_ret2
  exact ⟨rfl, by assumption⟩
theorem read_c (s : ByteArray) (w : World) (hL : Laid w) : Calls Tryd.prog 30 #[.string s] w fun e w' => e = .returned (.tuple #[.int .i64 (Iso.rdV s.data.toList), .int .i64 (Iso.rdE s.data.toList)]) ∧ Below w.heap.size w w' := by
  cases h : Iso.shB s.data.toList
  · have e1 : Iso.rdV s.data.toList = 0 := by unfold Iso.rdV; rw [if_neg (by rw [h]; decide)]
    have e2 : Iso.rdE s.data.toList = 10 := by unfold Iso.rdE; rw [if_neg (by rw [h]; decide)]
    rw [e1, e2]; clear e1 e2
    have hB : Below w.heap.size w w := Below.refl _ _
    go_enter Tryd.func30, Tryd.ntmps30
    go_wp2_with fail
    refine (shaped_c _ _).mono ?_; rintro e w1 ⟨rfl, hb1⟩
    have hz1 := hb1.size; (try simp at hz1); obtain ⟨hc1, hf1⟩ := bcell hb1; have hB1 := below_step (w := w) hb1 (by repeat (first | assumption | exact Below.refl _ _ | (with_reducible refine Below.drew ?_) | (with_reducible refine below_drewN' ?_ _) | (with_reducible refine below_al ?_) | ((with_reducible refine below_set ?_ ?_); rotate_left; focus (first | (simp; done) | (simp; omega)))))
    have le_w_w1 : w.heap.size ≤ w1.heap.size := by omega
    try have lt_w_w1 : w.heap.size < w1.heap.size := by omega
    go_wp2_with fail
    go_ret2
    exact ⟨rfl, by repeat (first | assumption | exact Below.refl _ _ | (with_reducible refine Below.drew ?_) | (with_reducible refine below_drewN' ?_ _) | (with_reducible refine below_al ?_) | ((with_reducible refine below_set ?_ ?_); rotate_left; focus (first | (simp; done) | (simp; omega))))⟩
  · have e1 : Iso.rdV s.data.toList = numV (Iso.rY s.data.toList) (Iso.rM s.data.toList) (Iso.rD s.data.toList) := by unfold Iso.rdV; rw [if_pos h]
    have e2 : Iso.rdE s.data.toList = numE (Iso.rY s.data.toList) (Iso.rM s.data.toList) (Iso.rD s.data.toList) := by unfold Iso.rdE; rw [if_pos h]
    rw [e1, e2]
    exact read_yes s (Lib.hid (by rw [← Iso.len_byte]; exact ((Iso.sh_iff _).1 h).1)) h w hL
end Go.Proofs.YtmaocplnikijnaaDoor
