/- Months of 30 days, the document's: the three ways, as the program's plain counts. Conditions: none. -/
import Derived.Test.YtjcjchapfiokeaaDoorThiF
namespace Go.Proofs.YtjcjchapfiokeaaDoor
open Go.RowKit
set_option linter.unusedVariables false
theorem dayB_no {n : Int} (h : ¬ (1 ≤ n ∧ n ≤ 3652059)) : dayB n = false := decide_eq_false h
theorem dus_c (a b : Int) (eom : Bool) (w : World) : Calls Tryd.prog 31 #[.int .i64 a, .int .i64 b, .bool eom] w fun e w' => e = .returned (.tuple #[.agg #[.int .i64 (Thi.prN (Thi.usN a b eom) a b), .int .i64 (Thi.prD (Thi.usN a b eom) a b)], .int .i64 (Thi.prE a b)]) ∧ Below w.heap.size w w' := by
  by_cases ha : 1 ≤ a ∧ a ≤ 3652059
  · by_cases hb : 1 ≤ b ∧ b ≤ 3652059
    · by_cases hab : b < a
      · obtain ⟨e1, e2, e3⟩ := Thi.pr_order (Thi.usN a b eom) ha.1 ha.2 hb.1 hb.2 hab
        rw [e1, e2, e3]; exact dus_o a b eom (dayB_in ha.1 ha.2) (dayB_in hb.1 hb.2) hab w
      · obtain ⟨e1, e2, e3⟩ := Thi.pr_ok (Thi.usN a b eom) ha.1 ha.2 hb.1 hb.2 (by omega)
        rw [e1, e2, e3]
        have da := Cal.day_of a ha.1 ha.2; have db := Cal.day_of b hb.1 hb.2; have xa := Thi.d_bd ha.1 ha.2; have xb := Thi.d_bd hb.1 hb.2
        have t3 := Thi.us_bd (eom := eom) ha.1 hb.2 (by omega : a ≤ b)
        exact dus_ok a b (Cal.yOf a) (Cal.mOf a) (Cal.dOf a) (Cal.yOf b) (Cal.mOf b) (Cal.dOf b) (Thi.usN a b eom) (Mon.lastB a) (Mon.lastB b) (max 0 (Thi.usN a b eom)).toNat eom (Thi.fe a) (Thi.fe b) (Lib.hid ⟨Thi.fe_l ha.1 ha.2, Thi.fe_l hb.1 hb.2⟩) ha.1 ha.2 hb.1 hb.2 hab (Lib.hid ⟨rfl, rfl, rfl⟩) (Lib.hid ⟨rfl, rfl, rfl⟩) (Lib.hid ⟨rfl, rfl⟩) ⟨da.y1, da.y2, db.y1, db.y2, da.m1, da.m2, db.m1, db.m2, xa.1, xa.2.1, xb.1, xb.2.1⟩ (Lib.hid (by show _ = Thi.base a b + (if 30 ≤ Thi.u1 a eom then min (Thi.u2 a b eom) 30 else Thi.u2 a b eom) - min (Thi.u1 a eom) 30; have e1 : x2 eom (Thi.fe a) (Thi.fe b) (Cal.dOf a) (Cal.dOf b) = (if 30 ≤ Thi.u1 a eom then min (Thi.u2 a b eom) 30 else Thi.u2 a b eom) := rfl; have e2 : v1 eom (Thi.fe a) (Cal.dOf a) = Thi.u1 a eom := rfl; rw [e1, e2]; unfold Thi.base; omega)) (Lib.hid (by omega)) (by omega) w
    · obtain ⟨e1, e2, e3⟩ := Thi.pr_none (Thi.usN a b eom) (show ¬ (1 ≤ a ∧ a ≤ 3652059 ∧ 1 ≤ b ∧ b ≤ 3652059) by omega)
      rw [e1, e2, e3]; exact dus_b a b eom (dayB_in ha.1 ha.2) (dayB_no hb) w
  · obtain ⟨e1, e2, e3⟩ := Thi.pr_none (Thi.usN a b eom) (show ¬ (1 ≤ a ∧ a ≤ 3652059 ∧ 1 ≤ b ∧ b ≤ 3652059) by omega)
    rw [e1, e2, e3]; exact dus_a a b eom (dayB_no ha) (dayB b) rfl w
theorem de_c (a b : Int)  (w : World) : Calls Tryd.prog 33 #[.int .i64 a, .int .i64 b] w fun e w' => e = .returned (.tuple #[.agg #[.int .i64 (Thi.prN (Thi.eN a b) a b), .int .i64 (Thi.prD (Thi.eN a b) a b)], .int .i64 (Thi.prE a b)]) ∧ Below w.heap.size w w' := by
  by_cases ha : 1 ≤ a ∧ a ≤ 3652059
  · by_cases hb : 1 ≤ b ∧ b ≤ 3652059
    · by_cases hab : b < a
      · obtain ⟨e1, e2, e3⟩ := Thi.pr_order (Thi.eN a b) ha.1 ha.2 hb.1 hb.2 hab
        rw [e1, e2, e3]; exact de_o a b  (dayB_in ha.1 ha.2) (dayB_in hb.1 hb.2) hab w
      · obtain ⟨e1, e2, e3⟩ := Thi.pr_ok (Thi.eN a b) ha.1 ha.2 hb.1 hb.2 (by omega)
        rw [e1, e2, e3]
        have da := Cal.day_of a ha.1 ha.2; have db := Cal.day_of b hb.1 hb.2; have xa := Thi.d_bd ha.1 ha.2; have xb := Thi.d_bd hb.1 hb.2
        have t3 := Thi.e_bd ha.1 hb.2 (by omega : a ≤ b)
        exact de_ok a b (Cal.yOf a) (Cal.mOf a) (Cal.dOf a) (Cal.yOf b) (Cal.mOf b) (Cal.dOf b) (Thi.eN a b) (Mon.lastB a) (Mon.lastB b) (max 0 (Thi.eN a b)).toNat  ha.1 ha.2 hb.1 hb.2 hab (Lib.hid ⟨rfl, rfl, rfl⟩) (Lib.hid ⟨rfl, rfl, rfl⟩) (Lib.hid ⟨rfl, rfl⟩) ⟨da.y1, da.y2, db.y1, db.y2, da.m1, da.m2, db.m1, db.m2, xa.1, xa.2.1, xb.1, xb.2.1⟩ (Lib.hid (by unfold Thi.eN Thi.base; omega)) (Lib.hid (by omega)) (by omega) w
    · obtain ⟨e1, e2, e3⟩ := Thi.pr_none (Thi.eN a b) (show ¬ (1 ≤ a ∧ a ≤ 3652059 ∧ 1 ≤ b ∧ b ≤ 3652059) by omega)
      rw [e1, e2, e3]; exact de_b a b  (dayB_in ha.1 ha.2) (dayB_no hb) w
  · obtain ⟨e1, e2, e3⟩ := Thi.pr_none (Thi.eN a b) (show ¬ (1 ≤ a ∧ a ≤ 3652059 ∧ 1 ≤ b ∧ b ≤ 3652059) by omega)
    rw [e1, e2, e3]; exact de_a a b  (dayB_no ha) (dayB b) rfl w
theorem dis_c (a b : Int) (x : Int) (w : World) : Calls Tryd.prog 35 #[.int .i64 a, .int .i64 b, .int .i64 x] w fun e w' => e = .returned (.tuple #[.agg #[.int .i64 (Thi.prN (Thi.isN a b x) a b), .int .i64 (Thi.prD (Thi.isN a b x) a b)], .int .i64 (Thi.prE a b)]) ∧ Below w.heap.size w w' := by
  by_cases ha : 1 ≤ a ∧ a ≤ 3652059
  · by_cases hb : 1 ≤ b ∧ b ≤ 3652059
    · by_cases hab : b < a
      · obtain ⟨e1, e2, e3⟩ := Thi.pr_order (Thi.isN a b x) ha.1 ha.2 hb.1 hb.2 hab
        rw [e1, e2, e3]; exact dis_o a b x (dayB_in ha.1 ha.2) (dayB_in hb.1 hb.2) hab w
      · obtain ⟨e1, e2, e3⟩ := Thi.pr_ok (Thi.isN a b x) ha.1 ha.2 hb.1 hb.2 (by omega)
        rw [e1, e2, e3]
        have da := Cal.day_of a ha.1 ha.2; have db := Cal.day_of b hb.1 hb.2; have xa := Thi.d_bd ha.1 ha.2; have xb := Thi.d_bd hb.1 hb.2
        have t3 := Thi.is_bd (e := x) ha.1 hb.2 (by omega : a ≤ b)
        exact dis_ok a b (Cal.yOf a) (Cal.mOf a) (Cal.dOf a) (Cal.yOf b) (Cal.mOf b) (Cal.dOf b) (Thi.isN a b x) (Mon.lastB a) (Mon.lastB b) (max 0 (Thi.isN a b x)).toNat x ha.1 ha.2 hb.1 hb.2 hab (Lib.hid ⟨rfl, rfl, rfl⟩) (Lib.hid ⟨rfl, rfl, rfl⟩) (Lib.hid ⟨rfl, rfl⟩) ⟨da.y1, da.y2, db.y1, db.y2, da.m1, da.m2, db.m1, db.m2, xa.1, xa.2.1, xb.1, xb.2.1⟩ (Lib.hid (by rw [Thi.i2_l hb.1 hb.2, Thi.i1_l ha.1 ha.2]; unfold Thi.isN Thi.base; omega)) (Lib.hid (by omega)) (by omega) w
    · obtain ⟨e1, e2, e3⟩ := Thi.pr_none (Thi.isN a b x) (show ¬ (1 ≤ a ∧ a ≤ 3652059 ∧ 1 ≤ b ∧ b ≤ 3652059) by omega)
      rw [e1, e2, e3]; exact dis_b a b x (dayB_in ha.1 ha.2) (dayB_no hb) w
  · obtain ⟨e1, e2, e3⟩ := Thi.pr_none (Thi.isN a b x) (show ¬ (1 ≤ a ∧ a ≤ 3652059 ∧ 1 ≤ b ∧ b ≤ 3652059) by omega)
    rw [e1, e2, e3]; exact dis_a a b x (dayB_no ha) (dayB b) rfl w
theorem pr_at {N a b : Int} {P D E : Int} (h : Thi.prN N a b = P ∧ Thi.prD N a b = D ∧ Thi.prE a b = E) {f : FuncId} {vs : Array Value} {w : World} (g : Calls Tryd.prog f vs w fun e w' => e = .returned (.tuple #[.agg #[.int .i64 (Thi.prN N a b), .int .i64 (Thi.prD N a b)], .int .i64 (Thi.prE a b)]) ∧ Below w.heap.size w w') :
    Calls Tryd.prog f vs w fun e w' => e = .returned (.tuple #[.agg #[.int .i64 P, .int .i64 D], .int .i64 E]) ∧ Below w.heap.size w w' := by
  rw [h.1, h.2.1, h.2.2] at g; exact g
end Go.Proofs.YtjcjchapfiokeaaDoor
