/- The contracts of the layer of days, third part: the numbers of days: the program's and the document's. Conditions: the table of months' lengths lies as the program's text lays it. -/
import Derived.Test.YtjcjchapfiokeaaDoorCivB
namespace Go.Proofs.YtjcjchapfiokeaaDoor
open Go.RowKit

theorem bcell {W w1 : World} (hb : Below W.heap.size W w1) : (∀ b o, b < W.heap.size → w1.cell? ⟨b, o, none⟩ = W.cell? ⟨b, o, none⟩) ∧ (∀ b o, b < W.heap.size → w1.frozen? ⟨b, o, none⟩ = W.frozen? ⟨b, o, none⟩) :=
  ⟨fun b o h => hb.cell (p := ⟨b, o, none⟩) h, fun b o h => hb.frozen (p := ⟨b, o, none⟩) h⟩
theorem below_box {w w1 : World} {o : Obj} (hb : Below (w.alloc o).heap.size (w.alloc o) w1) : Below w.heap.size w w1 :=
  (below_one w o).trans (hb.mono (by simp))
theorem ret_two {k l : IntKind} {a b c d : Int} (h : a = b) (g : c = d) : Ending.returned (.tuple #[.int k a, .int l c]) = .returned (.tuple #[.int k b, .int l d]) := by rw [h, g]

theorem number_no (y m d : Int) (w : World) (hL : Laid w) (h : Cal.mayB y m d = false) : Calls Tryd.prog 77 #[.agg #[.int .i64 y, .int .i64 m, .int .i64 d]] w fun e w' => e = .returned (.tuple #[.int .i64 0, .int .i64 3]) ∧ Below w.heap.size w w' := by
  go_enter Tryd.func77, Tryd.ntmps77
  go_wp2_with (go_at_call 89; refine (may_c _ _ _ _ (hL.alloc _)).mono ?_; rintro e w1 ⟨rfl, hb⟩)
  go_ret2
  exact ⟨rfl, below_box hb⟩
theorem number_yes (y m d : Int) (w : World) (hL : Laid w) (h : Cal.mayB y m d = true) : Calls Tryd.prog 77 #[.agg #[.int .i64 y, .int .i64 m, .int .i64 d]] w fun e w' => e = .returned (.tuple #[.int .i64 (Cal.num y m d), .int .i64 0]) ∧ Below w.heap.size w w' := by
  obtain ⟨y1, y2, d1, d2⟩ := (Cal.mayB_iff y m d).1 h
  obtain ⟨m1, m2⟩ := Cal.len_in (y := y) (m := m) (by omega)
  have d3 : d ≤ 31 := by have := Cal.len_bd y m m1 m2; omega
  have HS : (y - 1) * 365 + (y - 1) / 4 - (y - 1) / 100 + (y - 1) / 400 + d = Cal.dby y + d + Cal.cum y 1 := by rw [Cal.cum_one]; unfold Cal.dby; omega
  obtain ⟨b1, b2⟩ := Cal.dby_bd y y1 (by omega)
  have H := Lib.hid HS; clear HS
  go_enter Tryd.func77, Tryd.ntmps77
  go_wp2_with (go_at_call 89; refine (may_c _ _ _ _ (hL.alloc _)).mono ?_; rintro e w1 ⟨rfl, hb⟩; obtain ⟨hc, hf⟩ := bcell hb)
  have HL := Lib.hid ((hL.alloc _).below hb)
  go_loop [5, 6] (fun n k => ∃ a : Int, 1 ≤ a ∧ a ≤ m ∧ k = .int .i64 a ∧ n = .int .i64 (Cal.dby y + d + Cal.cum y a)) (fun _ k => (m - intOf k).toNat)
  case atStart => exact ⟨1, by omega, by omega, rfl, by rw [H.out]⟩
  case round =>
    obtain ⟨a, a1, a2, rfl, rfl⟩ := hrel
    obtain ⟨c1, c2⟩ := Cal.cum_bd y a a1 (by omega)
    by_cases hlt : a < m
    · have HC := Lib.hid (Cal.cum_succ y a a1 (by omega))
      obtain ⟨e1, e2⟩ := Cal.len_bd y a a1 (by omega)
      go_wp2_with (go_at_call 46; refine (length_c _ _ _ HL.out).mono ?_; rintro e w' ⟨rfl, rfl⟩)
      go_round
      case rel => exact ⟨a + 1, by omega, by omega, rfl, by rw [HC.out, Int.add_assoc (Cal.dby y + d)]⟩
      case measure => simp [intOf]; omega
    · go_wp2
      go_ret2
      exact ⟨ret_two (by have : a = m := by omega
                         subst this; unfold Cal.num; omega) rfl, below_box hb⟩

theorem rnumber_no (y m d : Int) (w : World) (h : Cal.mayB y m d = false) : Calls Tryd.prog 36 #[.agg #[.int .i64 y, .int .i64 m, .int .i64 d]] w fun e w' => e = .returned (.tuple #[.int .i64 0, .int .i64 3]) ∧ Below w.heap.size w w' := by
  go_enter Tryd.func36, Tryd.ntmps36
  go_wp2_with (go_at_call 68; refine (rmay_c _ _ _ _).mono ?_; rintro e w1 ⟨rfl, hb⟩)
  go_ret2
  exact ⟨rfl, below_box hb⟩
theorem rnumber_yes (y m d : Int) (w : World) (h : Cal.mayB y m d = true) : Calls Tryd.prog 36 #[.agg #[.int .i64 y, .int .i64 m, .int .i64 d]] w fun e w' => e = .returned (.tuple #[.int .i64 (Cal.num y m d), .int .i64 0]) ∧ Below w.heap.size w w' := by
  obtain ⟨y1, y2, d1, d2⟩ := (Cal.mayB_iff y m d).1 h
  obtain ⟨m1, m2⟩ := Cal.len_in (y := y) (m := m) (by omega)
  have d3 : d ≤ 31 := by have := Cal.len_bd y m m1 m2; omega
  obtain ⟨b1, b2⟩ := Cal.dby_bd y y1 (by omega)
  have HS := Lib.hid (Cal.cum_one y)
  go_enter Tryd.func36, Tryd.ntmps36
  go_wp2_with (go_at_call 68; refine (rmay_c _ _ _ _).mono ?_; rintro e w1 ⟨rfl, hb⟩; obtain ⟨hc, hf⟩ := bcell hb)
  go_quiet ((go_at_call 55; exact Calls.quiet_of_same ((ahead_c _ y1 (by omega) _).mono fun _ _ h => ⟨h.1, h.2.symm⟩)))
  go_wp2
  go_loop [5, 6] (fun n k => ∃ a : Int, 1 ≤ a ∧ a ≤ m ∧ k = .int .i64 a ∧ n = .int .i64 (Cal.dby y + d + Cal.cum y a)) (fun _ k => (m - intOf k).toNat)
  case atStart => exact ⟨1, by omega, by omega, rfl, by rw [HS.out, Int.add_zero]⟩
  case round =>
    obtain ⟨a, a1, a2, rfl, rfl⟩ := hrel
    obtain ⟨c1, c2⟩ := Cal.cum_bd y a a1 (by omega)
    by_cases hlt : a < m
    · have HC := Lib.hid (Cal.cum_succ y a a1 (by omega))
      obtain ⟨e1, e2⟩ := Cal.len_bd y a a1 (by omega)
      go_wp2_with (go_at_call 27; refine (rlength_c _ _ _).mono ?_; rintro e w' ⟨rfl, rfl⟩)
      go_round
      case rel => exact ⟨a + 1, by omega, by omega, rfl, by rw [HC.out, Int.add_assoc (Cal.dby y + d)]⟩
      case measure => simp [intOf]; omega
    · go_wp2
      go_ret2
      exact ⟨ret_two (by have : a = m := by omega
                         subst this; unfold Cal.num; omega) rfl, below_drewN' (below_box hb) _⟩
end Go.Proofs.YtjcjchapfiokeaaDoor
