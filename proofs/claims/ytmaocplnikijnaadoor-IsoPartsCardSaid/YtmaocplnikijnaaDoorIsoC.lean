/- The contracts of a number's digits, as texts. Conditions: the number is not below 0, and 4 or 2 digits are asked. -/
import Derived.Test.YtmaocplnikijnaaDoorIsoB
import Derived.Laws.BytesArg
import Derived.Laws.NewBlocks
namespace Go.Proofs.YtmaocplnikijnaaDoor
open Go.RowKit
set_option linter.unusedVariables false

theorem make4 (w : World) : (Instr.makeSlice 59 (.int .i64 4) (.int .i64 4)).run Tryd.prog w = .ok (.slice (some ⟨w.heap.size, 0, none⟩) 4 4) (w.alloc (.cells #[.int .u8 0, .int .u8 0, .int .u8 0, .int .u8 0] 5)) := by kernel_rfl
theorem make2 (w : World) : (Instr.makeSlice 59 (.int .i64 2) (.int .i64 2)).run Tryd.prog w = .ok (.slice (some ⟨w.heap.size, 0, none⟩) 2 2) (w.alloc (.cells #[.int .u8 0, .int .u8 0] 5)) := by kernel_rfl

theorem str_app (a b : Array UInt8) : ((⟨a⟩ : ByteArray) ++ ⟨b⟩) = ⟨a ++ b⟩ := ByteArray.ext (by simp)
theorem conv4 (a b c d : Int) (w : World) : (convert 59 9 (.slice (some ⟨w.heap.size, 0, none⟩) 4 4)).run Tryd.prog (w.alloc (.cells #[.int .u8 a, .int .u8 b, .int .u8 c, .int .u8 d] 5)) = .ok (.string (strOfNums [a, b, c, d])) (w.alloc (.cells #[.int .u8 a, .int .u8 b, .int .u8 c, .int .u8 d] 5)) :=
  run_convert_bytes_arg _ 59 5 Tryd.underlying59 Tryd.underlying5 w.heap.size 0 4 4 [a, b, c, d] rfl (fun i hi => by
    have hk : i = 0 ∨ i = 1 ∨ i = 2 ∨ i = 3 := by omega
    rcases hk with rfl | rfl | rfl | rfl <;> simp [go_sem]) 9 Tryd.underlying9
theorem conv2 (a b : Int) (w : World) : (convert 59 9 (.slice (some ⟨w.heap.size, 0, none⟩) 2 2)).run Tryd.prog (w.alloc (.cells #[.int .u8 a, .int .u8 b] 5)) = .ok (.string (strOfNums [a, b])) (w.alloc (.cells #[.int .u8 a, .int .u8 b] 5)) :=
  run_convert_bytes_arg _ 59 5 Tryd.underlying59 Tryd.underlying5 w.heap.size 0 2 2 [a, b] rfl (fun i hi => by
    have hk : i = 0 ∨ i = 1 := by omega
    rcases hk with rfl | rfl <;> simp [go_sem]) 9 Tryd.underlying9
theorem conv1 (a : Int) (w : World) : (convert 59 9 (.slice (some ⟨w.heap.size, 0, none⟩) 1 1)).run Tryd.prog (w.alloc (.cells #[.int .u8 a] 5)) = .ok (.string (strOfNums [a])) (w.alloc (.cells #[.int .u8 a] 5)) :=
  run_convert_bytes_arg _ 59 5 Tryd.underlying59 Tryd.underlying5 w.heap.size 0 1 1 [a] rfl (fun i hi => by
    have hk : i = 0 := by omega
    subst hk; simp [go_sem]) 9 Tryd.underlying9

theorem digits4_t (n : Int) (h : 0 ≤ n) (h' : n ≤ 9999) (w : World) : Calls Tryd.prog 48 #[.int .i64 n, .int .i64 4] w fun e w' => e = .returned (.string ⟨(Iso.digs 4 n).toArray⟩) ∧ Below w.heap.size w w' := by
  have hmk := make4
  have hcv := conv4
  go_enter Tryd.func48, Tryd.ntmps48
  go_wp2_with fail
  refine wp_loop_rounds 5 ?_
  rw [rounds_succ]; go_wp2_with fail
  rw [rounds_succ]; go_wp2_with fail
  rw [rounds_succ]; go_wp2_with fail
  rw [rounds_succ]; go_wp2_with fail
  rw [rounds_succ]; go_wp2_with fail
  go_ret
  exact ⟨rfl, (Below.refl _ _).alloc (Nat.le_refl _) _⟩
theorem digits2_t (n : Int) (h : 0 ≤ n) (h' : n ≤ 9999) (w : World) : Calls Tryd.prog 48 #[.int .i64 n, .int .i64 2] w fun e w' => e = .returned (.string ⟨(Iso.digs 2 n).toArray⟩) ∧ Below w.heap.size w w' := by
  have hmk := make2
  have hcv := conv2
  go_enter Tryd.func48, Tryd.ntmps48
  go_wp2_with fail
  refine wp_loop_rounds 3 ?_
  rw [rounds_succ]; go_wp2_with fail
  rw [rounds_succ]; go_wp2_with fail
  rw [rounds_succ]; go_wp2_with fail
  go_ret
  exact ⟨rfl, (Below.refl _ _).alloc (Nat.le_refl _) _⟩
theorem ten_at0 (W : World) : (Instr.slice 9 (.string ⟨#[48, 49, 50, 51, 52, 53, 54, 55, 56, 57]⟩) (some (.int .i64 0)) (some (.int .i64 (0 + 1))) none).run Tryd.prog W = .ok (.string ⟨#[Iso.dg 0]⟩) W := by kernel_rfl
theorem ten_at1 (W : World) : (Instr.slice 9 (.string ⟨#[48, 49, 50, 51, 52, 53, 54, 55, 56, 57]⟩) (some (.int .i64 1)) (some (.int .i64 (1 + 1))) none).run Tryd.prog W = .ok (.string ⟨#[Iso.dg 1]⟩) W := by kernel_rfl
theorem ten_at2 (W : World) : (Instr.slice 9 (.string ⟨#[48, 49, 50, 51, 52, 53, 54, 55, 56, 57]⟩) (some (.int .i64 2)) (some (.int .i64 (2 + 1))) none).run Tryd.prog W = .ok (.string ⟨#[Iso.dg 2]⟩) W := by kernel_rfl
theorem ten_at3 (W : World) : (Instr.slice 9 (.string ⟨#[48, 49, 50, 51, 52, 53, 54, 55, 56, 57]⟩) (some (.int .i64 3)) (some (.int .i64 (3 + 1))) none).run Tryd.prog W = .ok (.string ⟨#[Iso.dg 3]⟩) W := by kernel_rfl
theorem ten_at4 (W : World) : (Instr.slice 9 (.string ⟨#[48, 49, 50, 51, 52, 53, 54, 55, 56, 57]⟩) (some (.int .i64 4)) (some (.int .i64 (4 + 1))) none).run Tryd.prog W = .ok (.string ⟨#[Iso.dg 4]⟩) W := by kernel_rfl
theorem ten_at5 (W : World) : (Instr.slice 9 (.string ⟨#[48, 49, 50, 51, 52, 53, 54, 55, 56, 57]⟩) (some (.int .i64 5)) (some (.int .i64 (5 + 1))) none).run Tryd.prog W = .ok (.string ⟨#[Iso.dg 5]⟩) W := by kernel_rfl
theorem ten_at6 (W : World) : (Instr.slice 9 (.string ⟨#[48, 49, 50, 51, 52, 53, 54, 55, 56, 57]⟩) (some (.int .i64 6)) (some (.int .i64 (6 + 1))) none).run Tryd.prog W = .ok (.string ⟨#[Iso.dg 6]⟩) W := by kernel_rfl
theorem ten_at7 (W : World) : (Instr.slice 9 (.string ⟨#[48, 49, 50, 51, 52, 53, 54, 55, 56, 57]⟩) (some (.int .i64 7)) (some (.int .i64 (7 + 1))) none).run Tryd.prog W = .ok (.string ⟨#[Iso.dg 7]⟩) W := by kernel_rfl
theorem ten_at8 (W : World) : (Instr.slice 9 (.string ⟨#[48, 49, 50, 51, 52, 53, 54, 55, 56, 57]⟩) (some (.int .i64 8)) (some (.int .i64 (8 + 1))) none).run Tryd.prog W = .ok (.string ⟨#[Iso.dg 8]⟩) W := by kernel_rfl
theorem ten_at9 (W : World) : (Instr.slice 9 (.string ⟨#[48, 49, 50, 51, 52, 53, 54, 55, 56, 57]⟩) (some (.int .i64 9)) (some (.int .i64 (9 + 1))) none).run Tryd.prog W = .ok (.string ⟨#[Iso.dg 9]⟩) W := by kernel_rfl
theorem ten_at (n : Int) (W : World) : (Instr.slice 9 (.string ⟨#[48, 49, 50, 51, 52, 53, 54, 55, 56, 57]⟩) (some (.int .i64 (n % 10))) (some (.int .i64 (n % 10 + 1))) none).run Tryd.prog W = .ok (.string ⟨#[Iso.dg n]⟩) W := by
  rw [← Iso.dg_mod n]
  have h1 : 0 ≤ n % 10 := by omega
  have h2 : n % 10 ≤ 9 := by omega
  generalize n % 10 = m at *
  have hm : m = 0 ∨ m = 1 ∨ m = 2 ∨ m = 3 ∨ m = 4 ∨ m = 5 ∨ m = 6 ∨ m = 7 ∨ m = 8 ∨ m = 9 := by omega
  rcases hm with rfl | rfl | rfl | rfl | rfl | rfl | rfl | rfl | rfl | rfl
  · exact ten_at0 W
  · exact ten_at1 W
  · exact ten_at2 W
  · exact ten_at3 W
  · exact ten_at4 W
  · exact ten_at5 W
  · exact ten_at6 W
  · exact ten_at7 W
  · exact ten_at8 W
  · exact ten_at9 W
theorem rdigits4_t (n : Int) (h : 0 ≤ n) (h' : n ≤ 9999) (w : World) : Calls Tryd.prog 49 #[.int .i64 n, .int .i64 4] w fun e w' => e = .returned (.string ⟨(Iso.digs 4 n).toArray⟩) ∧ w = w' := by
  have hten := ten_at
  go_enter Tryd.func49, Tryd.ntmps49
  go_wp2_with fail
  refine wp_loop_rounds 5 ?_
  rw [rounds_succ]; go_wp2_with fail
  rw [rounds_succ]; go_wp2_with fail
  rw [rounds_succ]; go_wp2_with fail
  rw [rounds_succ]; go_wp2_with fail
  rw [rounds_succ]; go_wp2_with fail
  go_ret
  exact ⟨congrArg (fun b => Ending.returned (.string b)) (by simp only [str_app]; rfl), rfl⟩
theorem rdigits2_t (n : Int) (h : 0 ≤ n) (h' : n ≤ 9999) (w : World) : Calls Tryd.prog 49 #[.int .i64 n, .int .i64 2] w fun e w' => e = .returned (.string ⟨(Iso.digs 2 n).toArray⟩) ∧ w = w' := by
  have hten := ten_at
  go_enter Tryd.func49, Tryd.ntmps49
  go_wp2_with fail
  refine wp_loop_rounds 3 ?_
  rw [rounds_succ]; go_wp2_with fail
  rw [rounds_succ]; go_wp2_with fail
  rw [rounds_succ]; go_wp2_with fail
  go_ret
  exact ⟨congrArg (fun b => Ending.returned (.string b)) (by simp only [str_app]; rfl), rfl⟩
theorem pad4_t (n : Int) (h : 0 ≤ n) (h' : n ≤ 9999) (w : World) : Calls Tryd.prog 32 #[.int .i64 n, .int .i64 4] w fun e w' => e = .returned (.string ⟨(Iso.digs 4 n).toArray⟩) ∧ Below w.heap.size w w' := by
  have hcv := fun a => conv1 a w
  have hcv1 := fun a o => conv1 a (w.alloc o)
  have hcv2 := fun a o p => conv1 a ((w.alloc o).alloc p)
  have hcv3 := fun a o p q => conv1 a (((w.alloc o).alloc p).alloc q)
  simp only [World.size_alloc] at hcv1 hcv2 hcv3
  go_enter Tryd.func32, Tryd.ntmps32
  go_wp2_with fail
  refine wp_loop_rounds 5 ?_
  rw [rounds_succ]; go_wp2_with fail
  rw [rounds_succ]; go_wp2_with fail
  rw [rounds_succ]; go_wp2_with fail
  rw [rounds_succ]; go_wp2_with fail
  rw [rounds_succ]; go_wp2_with fail
  go_ret
  refine ⟨congrArg (fun b => Ending.returned (.string b)) (by simp only [strOfNums, str_app]; rfl), ?_⟩
  repeat (first | assumption | exact Below.refl _ _ | (with_reducible refine Below.drew ?_) | (with_reducible refine below_drewN' ?_ _) | (with_reducible refine below_al ?_) | ((with_reducible refine below_set ?_ ?_); rotate_left; focus (first | (simp; done) | (simp; omega))))
theorem pad2_t (n : Int) (h : 0 ≤ n) (h' : n ≤ 9999) (w : World) : Calls Tryd.prog 32 #[.int .i64 n, .int .i64 2] w fun e w' => e = .returned (.string ⟨(Iso.digs 2 n).toArray⟩) ∧ Below w.heap.size w w' := by
  have hcv := fun a => conv1 a w
  have hcv1 := fun a o => conv1 a (w.alloc o)
  have hcv2 := fun a o p => conv1 a ((w.alloc o).alloc p)
  have hcv3 := fun a o p q => conv1 a (((w.alloc o).alloc p).alloc q)
  simp only [World.size_alloc] at hcv1 hcv2 hcv3
  go_enter Tryd.func32, Tryd.ntmps32
  go_wp2_with fail
  refine wp_loop_rounds 3 ?_
  rw [rounds_succ]; go_wp2_with fail
  rw [rounds_succ]; go_wp2_with fail
  rw [rounds_succ]; go_wp2_with fail
  go_ret
  refine ⟨congrArg (fun b => Ending.returned (.string b)) (by simp only [strOfNums, str_app]; rfl), ?_⟩
  repeat (first | assumption | exact Below.refl _ _ | (with_reducible refine Below.drew ?_) | (with_reducible refine below_drewN' ?_ _) | (with_reducible refine below_al ?_) | ((with_reducible refine below_set ?_ ?_); rotate_left; focus (first | (simp; done) | (simp; omega))))
end Go.Proofs.YtmaocplnikijnaaDoor
