/- The contracts of the layer of days, whole: numbers and days at every argument. Conditions: the table of months' lengths lies as the program's text lays it. -/
import Derived.Test.YtjcjchapfiokeaaDoorCivE
namespace Go.Proofs.YtjcjchapfiokeaaDoor
open Go.RowKit

def numV (y m d : Int) : Int := if Cal.mayB y m d = true then Cal.num y m d else 0
def numE (y m d : Int) : Int := if Cal.mayB y m d = true then 0 else 3
def ofY (n : Int) : Int := if 1 ≤ n ∧ n ≤ 3652059 then Cal.yOf n else 0
def ofM (n : Int) : Int := if 1 ≤ n ∧ n ≤ 3652059 then Cal.mOf n else 0
def ofD (n : Int) : Int := if 1 ≤ n ∧ n ≤ 3652059 then Cal.dOf n else 0
def ofE (n : Int) : Int := if 1 ≤ n ∧ n ≤ 3652059 then 0 else 3
theorem numV_yes {y m d : Int} (h : Cal.mayB y m d = true) : numV y m d = Cal.num y m d ∧ numE y m d = 0 := by simp [numV, numE, h]
theorem numV_no {y m d : Int} (h : Cal.mayB y m d = false) : numV y m d = 0 ∧ numE y m d = 3 := by simp [numV, numE, h]
theorem of_in {n : Int} (h1 : 1 ≤ n) (h2 : n ≤ 3652059) : ofY n = Cal.yOf n ∧ ofM n = Cal.mOf n ∧ ofD n = Cal.dOf n ∧ ofE n = 0 := by simp [ofY, ofM, ofD, ofE, h1, h2]
theorem of_out {n : Int} (h : n < 1 ∨ 3652059 < n) : ofY n = 0 ∧ ofM n = 0 ∧ ofD n = 0 ∧ ofE n = 3 := by
  have k : ¬ (1 ≤ n ∧ n ≤ 3652059) := by omega
  exact ⟨if_neg k, if_neg k, if_neg k, if_neg k⟩
theorem numE_cases (y m d : Int) : numE y m d = 0 ∨ numE y m d = 3 := by unfold numE; split <;> simp
theorem ofE_cases (n : Int) : ofE n = 0 ∨ ofE n = 3 := by unfold ofE; split <;> simp

theorem below_al {w W : World} {o : Obj} (h : Below w.heap.size w W) : Below w.heap.size w (W.alloc o) := h.alloc h.size o
theorem below_set {w W : World} {p : Addr} {u : Value} (h : Below w.heap.size w W) (hp : w.heap.size ≤ p.block) : Below w.heap.size w (W.setCell p u) := h.setCell hp u

theorem below_step {w W w' : World} (hb : Below W.heap.size W w') (h : Below w.heap.size w W) : Below w.heap.size w w' := h.trans (hb.mono h.size)

theorem number_c (y m d : Int) (w : World) (hL : Laid w) : Calls Tryd.prog 77 #[.agg #[.int .i64 y, .int .i64 m, .int .i64 d]] w fun e w' => e = .returned (.tuple #[.int .i64 (numV y m d), .int .i64 (numE y m d)]) ∧ Below w.heap.size w w' := by
  cases h : Cal.mayB y m d
  · obtain ⟨h1, h2⟩ := numV_no h; rw [h1, h2]; exact number_no y m d w hL h
  · obtain ⟨h1, h2⟩ := numV_yes h; rw [h1, h2]; exact number_yes y m d w hL h
theorem rnumber_c (y m d : Int) (w : World) : Calls Tryd.prog 36 #[.agg #[.int .i64 y, .int .i64 m, .int .i64 d]] w fun e w' => e = .returned (.tuple #[.int .i64 (numV y m d), .int .i64 (numE y m d)]) ∧ Below w.heap.size w w' := by
  cases h : Cal.mayB y m d
  · obtain ⟨h1, h2⟩ := numV_no h; rw [h1, h2]; exact rnumber_no y m d w h
  · obtain ⟨h1, h2⟩ := numV_yes h; rw [h1, h2]; exact rnumber_yes y m d w h
theorem of_c (n : Int) (w : World) (hL : Laid w) : Calls Tryd.prog 54 #[.int .i64 n] w fun e w' => e = .returned (.tuple #[.agg #[.int .i64 (ofY n), .int .i64 (ofM n), .int .i64 (ofD n)], .int .i64 (ofE n)]) ∧ Below w.heap.size w w' := by
  by_cases h : 1 ≤ n ∧ n ≤ 3652059
  · obtain ⟨h1, h2, h3, h4⟩ := of_in h.1 h.2; rw [h1, h2, h3, h4]; exact of_yes n w hL h.1 h.2
  · obtain ⟨h1, h2, h3, h4⟩ := of_out (n := n) (by omega); rw [h1, h2, h3, h4]; exact of_no n w (by omega)
theorem rof_c (n : Int) (w : World) : Calls Tryd.prog 26 #[.int .i64 n] w fun e w' => e = .returned (.tuple #[.agg #[.int .i64 (ofY n), .int .i64 (ofM n), .int .i64 (ofD n)], .int .i64 (ofE n)]) ∧ Below w.heap.size w w' := by
  by_cases h : 1 ≤ n ∧ n ≤ 3652059
  · obtain ⟨h1, h2, h3, h4⟩ := of_in h.1 h.2; rw [h1, h2, h3, h4]; exact rof_yes n w h.1 h.2
  · obtain ⟨h1, h2, h3, h4⟩ := of_out (n := n) (by omega); rw [h1, h2, h3, h4]; exact rof_no n w (by omega)
end Go.Proofs.YtjcjchapfiokeaaDoor
