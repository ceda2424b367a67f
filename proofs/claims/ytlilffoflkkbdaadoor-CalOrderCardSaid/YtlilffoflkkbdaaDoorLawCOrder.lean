/- The walk of CalOrder: the law returns true for every input. Conditions: the tables of months' lengths and of the week all of whose days are off lie as the program's text lays them. -/
import Derived.Test.YtlilffoflkkbdaaDoorCal0
import Derived.Test.YtlilffoflkkbdaaDoorCalO
import Derived.BigRegion
namespace Go.Proofs.YtlilffoflkkbdaaDoor
open Go.RowKit
set_option linter.unusedVariables false
set_option linter.unusedSimpArgs false
/-- A rule laid over eight cells. -/
def put8 (cs : Array Value) (q : Nat) (r : R8) : Array Value := (((((((cs.setIfInBounds q (.int .i64 r.kd)).setIfInBounds (q + 1) (.int .i64 r.mo)).setIfInBounds (q + 2) (.int .i64 r.da)).setIfInBounds (q + 3) (.int .i64 r.kk)).setIfInBounds (q + 4) (.int .i64 r.off)).setIfInBounds (q + 5) (.int .i64 r.sh)).setIfInBounds (q + 6) (.int .i64 r.fr)).setIfInBounds (q + 7) (.int .i64 r.to)
theorem flat_at {cur : Array Value} {rs : List R8} (h : cur.toList.take (rs.length * 8) = rs.flatMap R8.enc) (z q : Nat) (u : Value) (hz : z < rs.length) (hu : (rs[z]!.enc)[q]? = some u) : cur.toList[z * 8 + q]? = some u := by
  have hq : q < 8 := by
    have := (List.getElem?_eq_some_iff.1 hu).1
    simpa [R8.enc] using this
  have e := enc_flat rs z q hz hq
  rw [hu, ← h, List.getElem?_take_of_lt (by omega)] at e
  exact e
theorem some_set8 {W : World} {p a : Addr} {v : Value} (h : ∃ u, W.cell? a = some u) : ∃ u, (W.setCell p v).cell? a = some u := by
  obtain ⟨u, hu⟩ := h
  by_cases e : p = a
  · subst e; exact ⟨v, World.cell?_setCell_same' W p v (by rw [hu]; rfl)⟩
  · exact ⟨u, (World.cell?_setCell_other W _ _ _ e).trans hu⟩
theorem blk_off {W : World} {k g q : Nat} {v : Value} {B : Obj} (hne : g ≠ k) (h : W.heap[k]? = some B) : (W.setCell ⟨g, q, none⟩ v).heap[k]? = some B := by
  simp [World.setCell, Array.getElem?_modify, hne, h]
theorem put8_size (cs : Array Value) (q : Nat) (r : R8) : (put8 cs q r).size = cs.size := by simp [put8]
theorem put8_out (cs : Array Value) (q : Nat) (r : R8) (p : Nat) (h : p < q ∨ q + 8 ≤ p) : (put8 cs q r)[p]? = cs[p]? := by
  unfold put8
  simp only [Array.getElem?_setIfInBounds]
  rw [if_neg (by omega), if_neg (by omega), if_neg (by omega), if_neg (by omega), if_neg (by omega), if_neg (by omega), if_neg (by omega), if_neg (by omega)]
theorem put8_in (cs : Array Value) (q : Nat) (r : R8) (i : Nat) (hi : i < 8) (h : q + 8 ≤ cs.size) : (put8 cs q r)[q + i]? = (r.enc)[i]? := by
  have hk : i = 0 ∨ i = 1 ∨ i = 2 ∨ i = 3 ∨ i = 4 ∨ i = 5 ∨ i = 6 ∨ i = 7 := by omega
  unfold put8
  simp only [Array.getElem?_setIfInBounds, Array.size_setIfInBounds]
  rcases hk with rfl | rfl | rfl | rfl | rfl | rfl | rfl | rfl <;> simp [R8.enc] <;> omega
theorem rin_swp {W : World} {g cap : Nat} {cur : Array Value} {rs : List R8} {x y : Nat} {rx ry : R8} (hx : x < rs.length) (hy : y < rs.length) (hrx : rs[x]! = rx) (hry : rs[y]! = ry) (hn : rs.length ≤ cap) (hs : cur.size = cap * 8)
    (ht : cur.toList.take (rs.length * 8) = rs.flatMap R8.enc) (h : W.heap[g]? = some (.cells (put8 (put8 cur (x * 8) ry) (y * 8) rx) 68 (0, 0))) : RIn W (some ⟨g, 0, none⟩) (swp rs x y) := by
  refine Or.inr ⟨g, 0, rfl, blk_lt h, fun j hj i v hv => ?_⟩
  rw [swp_len] at hj
  have hi : i < 8 := by
    have := (List.getElem?_eq_some_iff.1 hv).1
    simpa [R8.enc] using this
  rw [Nat.zero_add]
  refine blk_cell h ?_
  rw [swp_at rs x y j hj] at hv
  by_cases e1 : y = j
  · subst e1
    rw [if_pos rfl, hrx] at hv
    rw [put8_in _ _ _ i hi (by rw [put8_size]; omega)]; exact hv
  · rw [if_neg e1] at hv
    rw [put8_out _ _ _ _ (by omega)]
    by_cases e2 : x = j
    · subst e2
      rw [if_pos rfl, hry] at hv
      rw [put8_in _ _ _ i hi (by omega)]; exact hv
    · rw [if_neg e2] at hv
      rw [put8_out _ _ _ _ (by omega), ← Array.getElem?_toList]
      exact flat_at ht j i v hj hv
theorem isV_c (c : CalP) (n : Int) (v : Bool) (hv : Hid (c.is n = v)) (hk : CalOk c) (w : World) (hL : Laid w) (hc : CalIn w c) : Calls Tryd.prog 36 #[.agg #[.bool c.o0, .bool c.o1, .bool c.o2, .bool c.o3, .bool c.o4, .bool c.o5, .bool c.o6, .slice c.A c.rs.length c.cR, .slice c.D c.ds.length c.cD], .int .i64 n] w fun e w' => e = .returned (.bool v) ∧ Below w.heap.size w w' := by
  rw [← hv.out]; exact calIs_c c n hk w hL hc
theorem mayV_c (c : CalP) (v : Bool) (hv : Hid (c.may = v)) (w : World) (hL : Laid w) (hN : AllOff w) (hc : CalIn w c) : Calls Tryd.prog 35 #[.agg #[.bool c.o0, .bool c.o1, .bool c.o2, .bool c.o3, .bool c.o4, .bool c.o5, .bool c.o6, .slice c.A c.rs.length c.cR, .slice c.D c.ds.length c.cD]] w fun e w' => e = .returned (.bool v) ∧ Below w.heap.size w w' := by
  rw [← hv.out]; exact calMay_c c w hL hN hc
theorem isVL_c (c : CalP) (l : Nat) (hl : Hid (c.rs.length = l)) (n : Int) (v : Bool) (hv : Hid (c.is n = v)) (hk : CalOk c) (w : World) (hL : Laid w) (hc : CalIn w c) : Calls Tryd.prog 36 #[.agg #[.bool c.o0, .bool c.o1, .bool c.o2, .bool c.o3, .bool c.o4, .bool c.o5, .bool c.o6, .slice c.A l c.cR, .slice c.D c.ds.length c.cD], .int .i64 n] w fun e w' => e = .returned (.bool v) ∧ Below w.heap.size w w' := by
  rw [← hl.out]; exact isV_c c n v hv hk w hL hc
theorem mayVL_c (c : CalP) (l : Nat) (hl : Hid (c.rs.length = l)) (v : Bool) (hv : Hid (c.may = v)) (w : World) (hL : Laid w) (hN : AllOff w) (hc : CalIn w c) : Calls Tryd.prog 35 #[.agg #[.bool c.o0, .bool c.o1, .bool c.o2, .bool c.o3, .bool c.o4, .bool c.o5, .bool c.o6, .slice c.A l c.cR, .slice c.D c.ds.length c.cD]] w fun e w' => e = .returned (.bool v) ∧ Below w.heap.size w w' := by
  rw [← hl.out]; exact mayV_c c v hv w hL hN hc
set_option maxRecDepth 100000 in
set_option maxHeartbeats 8000000 in
theorem calOrder_few (c : CalP) (i j n : Int) (hf : c.few = false) (w : World) (hL : Laid w) (hN : AllOff w) (hc : CalIn w c) : Calls Tryd.prog 15 #[.agg #[.bool c.o0, .bool c.o1, .bool c.o2, .bool c.o3, .bool c.o4, .bool c.o5, .bool c.o6, .slice c.A c.rs.length c.cR, .slice c.D c.ds.length c.cD, .int .u8 i, .int .u8 j, .int .i64 n]] w fun e w' => e = .returned (.bool true) ∧ Below w.heap.size w w' := by
  have hB : Below w.heap.size w w := Below.refl _ _
  go_enter Tryd.func15, Tryd.ntmps15
  (try go_simp); (repeat (first | ((with_reducible refine wp_region_app ?_); simp only [List.cons_append, List.nil_append]) | go_values | go_skip | go_guarded | go_step | go_upon))
  refine (shown13_c _ (hL.below (by repeat (first | assumption | exact Below.refl _ _ | (with_reducible refine Below.drew ?_) | (with_reducible refine below_drewN' ?_ _) | (with_reducible refine below_al ?_) | ((with_reducible refine below_set ?_ ?_); rotate_left; focus (first | (simp; done) | (simp; omega)))))) (hN.below (by repeat (first | assumption | exact Below.refl _ _ | (with_reducible refine Below.drew ?_) | (with_reducible refine below_drewN' ?_ _) | (with_reducible refine below_al ?_) | ((with_reducible refine below_set ?_ ?_); rotate_left; focus (first | (simp; done) | (simp; omega))))))).mono ?_; rintro e w1 ⟨rfl, hb1⟩
  have hz1 := hb1.size; (try simp at hz1); obtain ⟨hc1, hf1⟩ := bcell hb1; have hB1 := below_step (w := w) hb1 (by repeat (first | assumption | exact Below.refl _ _ | (with_reducible refine Below.drew ?_) | (with_reducible refine below_drewN' ?_ _) | (with_reducible refine below_al ?_) | ((with_reducible refine below_set ?_ ?_); rotate_left; focus (first | (simp; done) | (simp; omega)))))
  have le_w_w1 : w.heap.size ≤ w1.heap.size := by omega
  try have lt_w_w1 : w.heap.size < w1.heap.size := by omega
  have le1_w_w1 : w.heap.size + 1 ≤ w1.heap.size := by omega
  try have lt1_w_w1 : w.heap.size + 1 < w1.heap.size := by omega
  (try go_simp); (repeat (first | ((with_reducible refine wp_region_app ?_); simp only [List.cons_append, List.nil_append]) | go_values | go_skip | go_guarded | go_step | go_upon))
  refine (few_c c _).mono ?_; rintro e w2 ⟨rfl, hb2⟩
  have hz2 := hb2.size; (try simp at hz2); obtain ⟨hc2, hf2⟩ := bcell hb2; have hB2 := below_step (w := w) hb2 (by repeat (first | assumption | exact Below.refl _ _ | (with_reducible refine Below.drew ?_) | (with_reducible refine below_drewN' ?_ _) | (with_reducible refine below_al ?_) | ((with_reducible refine below_set ?_ ?_); rotate_left; focus (first | (simp; done) | (simp; omega)))))
  have le_w_w2 : w.heap.size ≤ w2.heap.size := by omega
  try have lt_w_w2 : w.heap.size < w2.heap.size := by omega
  have le1_w_w2 : w.heap.size + 1 ≤ w2.heap.size := by omega
  try have lt1_w_w2 : w.heap.size + 1 < w2.heap.size := by omega
  have le_w1_w2 : w1.heap.size ≤ w2.heap.size := by omega
  try have lt_w1_w2 : w1.heap.size < w2.heap.size := by omega
  (try go_simp); (repeat (first | ((with_reducible refine wp_region_app ?_); simp only [List.cons_append, List.nil_append]) | go_values | go_skip | go_guarded | go_step | go_upon))
  go_ret
  exact ⟨rfl, by repeat (first | assumption | exact Below.refl _ _ | (with_reducible refine Below.drew ?_) | (with_reducible refine below_drewN' ?_ _) | (with_reducible refine below_al ?_) | ((with_reducible refine below_set ?_ ?_); rotate_left; focus (first | (simp; done) | (simp; omega))))⟩
set_option maxRecDepth 100000 in
set_option maxHeartbeats 8000000 in
theorem calOrder_may (c : CalP) (i j n : Int) (hf : c.few = true) (hm : c.may = false) (w : World) (hL : Laid w) (hN : AllOff w) (hc : CalIn w c) : Calls Tryd.prog 15 #[.agg #[.bool c.o0, .bool c.o1, .bool c.o2, .bool c.o3, .bool c.o4, .bool c.o5, .bool c.o6, .slice c.A c.rs.length c.cR, .slice c.D c.ds.length c.cD, .int .u8 i, .int .u8 j, .int .i64 n]] w fun e w' => e = .returned (.bool true) ∧ Below w.heap.size w w' := by
  have hB : Below w.heap.size w w := Below.refl _ _
  go_enter Tryd.func15, Tryd.ntmps15
  (try go_simp); (repeat (first | ((with_reducible refine wp_region_app ?_); simp only [List.cons_append, List.nil_append]) | go_values | go_skip | go_guarded | go_step | go_upon))
  refine (shown13_c _ (hL.below (by repeat (first | assumption | exact Below.refl _ _ | (with_reducible refine Below.drew ?_) | (with_reducible refine below_drewN' ?_ _) | (with_reducible refine below_al ?_) | ((with_reducible refine below_set ?_ ?_); rotate_left; focus (first | (simp; done) | (simp; omega)))))) (hN.below (by repeat (first | assumption | exact Below.refl _ _ | (with_reducible refine Below.drew ?_) | (with_reducible refine below_drewN' ?_ _) | (with_reducible refine below_al ?_) | ((with_reducible refine below_set ?_ ?_); rotate_left; focus (first | (simp; done) | (simp; omega))))))).mono ?_; rintro e w1 ⟨rfl, hb1⟩
  have hz1 := hb1.size; (try simp at hz1); obtain ⟨hc1, hf1⟩ := bcell hb1; have hB1 := below_step (w := w) hb1 (by repeat (first | assumption | exact Below.refl _ _ | (with_reducible refine Below.drew ?_) | (with_reducible refine below_drewN' ?_ _) | (with_reducible refine below_al ?_) | ((with_reducible refine below_set ?_ ?_); rotate_left; focus (first | (simp; done) | (simp; omega)))))
  have le_w_w1 : w.heap.size ≤ w1.heap.size := by omega
  try have lt_w_w1 : w.heap.size < w1.heap.size := by omega
  have le1_w_w1 : w.heap.size + 1 ≤ w1.heap.size := by omega
  try have lt1_w_w1 : w.heap.size + 1 < w1.heap.size := by omega
  (try go_simp); (repeat (first | ((with_reducible refine wp_region_app ?_); simp only [List.cons_append, List.nil_append]) | go_values | go_skip | go_guarded | go_step | go_upon))
  refine (few_c c _).mono ?_; rintro e w2 ⟨rfl, hb2⟩
  have hz2 := hb2.size; (try simp at hz2); obtain ⟨hc2, hf2⟩ := bcell hb2; have hB2 := below_step (w := w) hb2 (by repeat (first | assumption | exact Below.refl _ _ | (with_reducible refine Below.drew ?_) | (with_reducible refine below_drewN' ?_ _) | (with_reducible refine below_al ?_) | ((with_reducible refine below_set ?_ ?_); rotate_left; focus (first | (simp; done) | (simp; omega)))))
  have le_w_w2 : w.heap.size ≤ w2.heap.size := by omega
  try have lt_w_w2 : w.heap.size < w2.heap.size := by omega
  have le1_w_w2 : w.heap.size + 1 ≤ w2.heap.size := by omega
  try have lt1_w_w2 : w.heap.size + 1 < w2.heap.size := by omega
  have le_w1_w2 : w1.heap.size ≤ w2.heap.size := by omega
  try have lt_w1_w2 : w1.heap.size < w2.heap.size := by omega
  (try go_simp); (repeat (first | ((with_reducible refine wp_region_app ?_); simp only [List.cons_append, List.nil_append]) | go_values | go_skip | go_guarded | go_step | go_upon))
  refine (rcalMay_c c _ (hc.below (by repeat (first | assumption | exact Below.refl _ _ | (with_reducible refine Below.drew ?_) | (with_reducible refine below_drewN' ?_ _) | (with_reducible refine below_al ?_) | ((with_reducible refine below_set ?_ ?_); rotate_left; focus (first | (simp; done) | (simp; omega))))))).mono ?_; rintro e w3 ⟨rfl, hb3⟩
  have hz3 := hb3.size; (try simp at hz3); obtain ⟨hc3, hf3⟩ := bcell hb3; have hB3 := below_step (w := w) hb3 (by repeat (first | assumption | exact Below.refl _ _ | (with_reducible refine Below.drew ?_) | (with_reducible refine below_drewN' ?_ _) | (with_reducible refine below_al ?_) | ((with_reducible refine below_set ?_ ?_); rotate_left; focus (first | (simp; done) | (simp; omega)))))
  have le_w_w3 : w.heap.size ≤ w3.heap.size := by omega
  try have lt_w_w3 : w.heap.size < w3.heap.size := by omega
  have le1_w_w3 : w.heap.size + 1 ≤ w3.heap.size := by omega
  try have lt1_w_w3 : w.heap.size + 1 < w3.heap.size := by omega
  have le_w1_w3 : w1.heap.size ≤ w3.heap.size := by omega
  try have lt_w1_w3 : w1.heap.size < w3.heap.size := by omega
  have le_w2_w3 : w2.heap.size ≤ w3.heap.size := by omega
  try have lt_w2_w3 : w2.heap.size < w3.heap.size := by omega
  (try go_simp); (repeat (first | ((with_reducible refine wp_region_app ?_); simp only [List.cons_append, List.nil_append]) | go_values | go_skip | go_guarded | go_step | go_upon))
  go_ret
  exact ⟨rfl, by repeat (first | assumption | exact Below.refl _ _ | (with_reducible refine Below.drew ?_) | (with_reducible refine below_drewN' ?_ _) | (with_reducible refine below_al ?_) | ((with_reducible refine below_set ?_ ?_); rotate_left; focus (first | (simp; done) | (simp; omega))))⟩
set_option maxRecDepth 100000 in
set_option maxHeartbeats 8000000 in
theorem calOrder_nil (c : CalP) (i j n : Int) (hf : c.few = true) (hm : c.may = true) (h0 : decide ((c.rs.length : Int) < 1) = true) (w : World) (hL : Laid w) (hN : AllOff w) (hc : CalIn w c) : Calls Tryd.prog 15 #[.agg #[.bool c.o0, .bool c.o1, .bool c.o2, .bool c.o3, .bool c.o4, .bool c.o5, .bool c.o6, .slice c.A c.rs.length c.cR, .slice c.D c.ds.length c.cD, .int .u8 i, .int .u8 j, .int .i64 n]] w fun e w' => e = .returned (.bool true) ∧ Below w.heap.size w w' := by
  have hB : Below w.heap.size w w := Below.refl _ _
  go_enter Tryd.func15, Tryd.ntmps15
  (try go_simp); (repeat (first | ((with_reducible refine wp_region_app ?_); simp only [List.cons_append, List.nil_append]) | go_values | go_skip | go_guarded | go_step | go_upon))
  refine (shown13_c _ (hL.below (by repeat (first | assumption | exact Below.refl _ _ | (with_reducible refine Below.drew ?_) | (with_reducible refine below_drewN' ?_ _) | (with_reducible refine below_al ?_) | ((with_reducible refine below_set ?_ ?_); rotate_left; focus (first | (simp; done) | (simp; omega)))))) (hN.below (by repeat (first | assumption | exact Below.refl _ _ | (with_reducible refine Below.drew ?_) | (with_reducible refine below_drewN' ?_ _) | (with_reducible refine below_al ?_) | ((with_reducible refine below_set ?_ ?_); rotate_left; focus (first | (simp; done) | (simp; omega))))))).mono ?_; rintro e w1 ⟨rfl, hb1⟩
  have hz1 := hb1.size; (try simp at hz1); obtain ⟨hc1, hf1⟩ := bcell hb1; have hB1 := below_step (w := w) hb1 (by repeat (first | assumption | exact Below.refl _ _ | (with_reducible refine Below.drew ?_) | (with_reducible refine below_drewN' ?_ _) | (with_reducible refine below_al ?_) | ((with_reducible refine below_set ?_ ?_); rotate_left; focus (first | (simp; done) | (simp; omega)))))
  have le_w_w1 : w.heap.size ≤ w1.heap.size := by omega
  try have lt_w_w1 : w.heap.size < w1.heap.size := by omega
  have le1_w_w1 : w.heap.size + 1 ≤ w1.heap.size := by omega
  try have lt1_w_w1 : w.heap.size + 1 < w1.heap.size := by omega
  (try go_simp); (repeat (first | ((with_reducible refine wp_region_app ?_); simp only [List.cons_append, List.nil_append]) | go_values | go_skip | go_guarded | go_step | go_upon))
  refine (few_c c _).mono ?_; rintro e w2 ⟨rfl, hb2⟩
  have hz2 := hb2.size; (try simp at hz2); obtain ⟨hc2, hf2⟩ := bcell hb2; have hB2 := below_step (w := w) hb2 (by repeat (first | assumption | exact Below.refl _ _ | (with_reducible refine Below.drew ?_) | (with_reducible refine below_drewN' ?_ _) | (with_reducible refine below_al ?_) | ((with_reducible refine below_set ?_ ?_); rotate_left; focus (first | (simp; done) | (simp; omega)))))
  have le_w_w2 : w.heap.size ≤ w2.heap.size := by omega
  try have lt_w_w2 : w.heap.size < w2.heap.size := by omega
  have le1_w_w2 : w.heap.size + 1 ≤ w2.heap.size := by omega
  try have lt1_w_w2 : w.heap.size + 1 < w2.heap.size := by omega
  have le_w1_w2 : w1.heap.size ≤ w2.heap.size := by omega
  try have lt_w1_w2 : w1.heap.size < w2.heap.size := by omega
  (try go_simp); (repeat (first | ((with_reducible refine wp_region_app ?_); simp only [List.cons_append, List.nil_append]) | go_values | go_skip | go_guarded | go_step | go_upon))
  refine (rcalMay_c c _ (hc.below (by repeat (first | assumption | exact Below.refl _ _ | (with_reducible refine Below.drew ?_) | (with_reducible refine below_drewN' ?_ _) | (with_reducible refine below_al ?_) | ((with_reducible refine below_set ?_ ?_); rotate_left; focus (first | (simp; done) | (simp; omega))))))).mono ?_; rintro e w3 ⟨rfl, hb3⟩
  have hz3 := hb3.size; (try simp at hz3); obtain ⟨hc3, hf3⟩ := bcell hb3; have hB3 := below_step (w := w) hb3 (by repeat (first | assumption | exact Below.refl _ _ | (with_reducible refine Below.drew ?_) | (with_reducible refine below_drewN' ?_ _) | (with_reducible refine below_al ?_) | ((with_reducible refine below_set ?_ ?_); rotate_left; focus (first | (simp; done) | (simp; omega)))))
  have le_w_w3 : w.heap.size ≤ w3.heap.size := by omega
  try have lt_w_w3 : w.heap.size < w3.heap.size := by omega
  have le1_w_w3 : w.heap.size + 1 ≤ w3.heap.size := by omega
  try have lt1_w_w3 : w.heap.size + 1 < w3.heap.size := by omega
  have le_w1_w3 : w1.heap.size ≤ w3.heap.size := by omega
  try have lt_w1_w3 : w1.heap.size < w3.heap.size := by omega
  have le_w2_w3 : w2.heap.size ≤ w3.heap.size := by omega
  try have lt_w2_w3 : w2.heap.size < w3.heap.size := by omega
  (try go_simp); (repeat (first | ((with_reducible refine wp_region_app ?_); simp only [List.cons_append, List.nil_append]) | go_values | go_skip | go_guarded | go_step | go_upon))
  go_ret
  exact ⟨rfl, by repeat (first | assumption | exact Below.refl _ _ | (with_reducible refine Below.drew ?_) | (with_reducible refine below_drewN' ?_ _) | (with_reducible refine below_al ?_) | ((with_reducible refine below_set ?_ ?_); rotate_left; focus (first | (simp; done) | (simp; omega))))⟩
set_option maxRecDepth 100000 in
set_option maxHeartbeats 8000000 in
theorem calOrder_in (o0 o1 o2 o3 o4 o5 o6 : Bool) (b o cR : Nat) (rs : List R8) (D : Option Addr) (cD : Nat) (ds : List Int) (i j n : Int) (hf : (CalP.mk o0 o1 o2 o3 o4 o5 o6 (some ⟨b, o, none⟩) cR rs D cD ds).few = true) (hm : (CalP.mk o0 o1 o2 o3 o4 o5 o6 (some ⟨b, o, none⟩) cR rs D cD ds).may = true) (x y : Nat) (hxl : x < rs.length) (hyl : y < rs.length) (z1 : IntKind.i64.wrap i = i) (z2 : IntKind.i64.wrap j = j) (hx : i.tmod (rs.length : Int) = (x : Int)) (hy : j.tmod (rs.length : Int) = (y : Int)) (hl0 : ¬ (rs.length : Int) = 0) (hl1 : decide ((rs.length : Int) < 1) = false) (hl2 : ¬ (rs.length : Int) < 1) (v : Bool) (eV : Hid ((CalP.mk o0 o1 o2 o3 o4 o5 o6 (some ⟨b, o, none⟩) cR rs D cD ds).is n = v)) (w : World) (hL : Laid w) (hN : AllOff w) (hc : CalIn w (CalP.mk o0 o1 o2 o3 o4 o5 o6 (some ⟨b, o, none⟩) cR rs D cD ds)) : Calls Tryd.prog 15 #[.agg #[.bool o0, .bool o1, .bool o2, .bool o3, .bool o4, .bool o5, .bool o6, .slice (some ⟨b, o, none⟩) rs.length cR, .slice D ds.length cD, .int .u8 i, .int .u8 j, .int .i64 n]] w fun e w' => e = .returned (.bool true) ∧ Below w.heap.size w w' := by
  obtain ⟨i0, hi0, hz0, hs0, hb0⟩ := info_parts infoR
  have fl : rs.length ≤ 12 ∧ ds.length ≤ 60 := few_len hf
  have xz : (x : Int) < (rs.length : Int) := by omega
  have yz : (y : Int) < (rs.length : Int) := by omega
  have hB : Below w.heap.size w w := Below.refl _ _
  go_enter Tryd.func15, Tryd.ntmps15
  (try go_simp); (repeat (first | ((with_reducible refine wp_region_app ?_); simp only [List.cons_append, List.nil_append]) | go_values | go_skip | go_guarded | go_step | go_upon))
  refine (shown13_c _ (hL.below (by repeat (first | assumption | exact Below.refl _ _ | (with_reducible refine Below.drew ?_) | (with_reducible refine below_drewN' ?_ _) | (with_reducible refine below_al ?_) | ((with_reducible refine below_set ?_ ?_); rotate_left; focus (first | (simp; done) | (simp; omega)))))) (hN.below (by repeat (first | assumption | exact Below.refl _ _ | (with_reducible refine Below.drew ?_) | (with_reducible refine below_drewN' ?_ _) | (with_reducible refine below_al ?_) | ((with_reducible refine below_set ?_ ?_); rotate_left; focus (first | (simp; done) | (simp; omega))))))).mono ?_; rintro e w1 ⟨rfl, hb1⟩
  have hz1 := hb1.size; (try simp at hz1); obtain ⟨hc1, hf1⟩ := bcell hb1; have hB1 := below_step (w := w) hb1 (by repeat (first | assumption | exact Below.refl _ _ | (with_reducible refine Below.drew ?_) | (with_reducible refine below_drewN' ?_ _) | (with_reducible refine below_al ?_) | ((with_reducible refine below_set ?_ ?_); rotate_left; focus (first | (simp; done) | (simp; omega)))))
  have le_w_w1 : w.heap.size ≤ w1.heap.size := by omega
  try have lt_w_w1 : w.heap.size < w1.heap.size := by omega
  have le1_w_w1 : w.heap.size + 1 ≤ w1.heap.size := by omega
  try have lt1_w_w1 : w.heap.size + 1 < w1.heap.size := by omega
  (try go_simp); (repeat (first | ((with_reducible refine wp_region_app ?_); simp only [List.cons_append, List.nil_append]) | go_values | go_skip | go_guarded | go_step | go_upon))
  refine (few_c (CalP.mk o0 o1 o2 o3 o4 o5 o6 (some ⟨b, o, none⟩) cR rs D cD ds) _).mono ?_; rintro e w2 ⟨rfl, hb2⟩
  have hz2 := hb2.size; (try simp at hz2); obtain ⟨hc2, hf2⟩ := bcell hb2; have hB2 := below_step (w := w) hb2 (by repeat (first | assumption | exact Below.refl _ _ | (with_reducible refine Below.drew ?_) | (with_reducible refine below_drewN' ?_ _) | (with_reducible refine below_al ?_) | ((with_reducible refine below_set ?_ ?_); rotate_left; focus (first | (simp; done) | (simp; omega)))))
  have le_w_w2 : w.heap.size ≤ w2.heap.size := by omega
  try have lt_w_w2 : w.heap.size < w2.heap.size := by omega
  have le1_w_w2 : w.heap.size + 1 ≤ w2.heap.size := by omega
  try have lt1_w_w2 : w.heap.size + 1 < w2.heap.size := by omega
  have le_w1_w2 : w1.heap.size ≤ w2.heap.size := by omega
  try have lt_w1_w2 : w1.heap.size < w2.heap.size := by omega
  (try go_simp); (repeat (first | ((with_reducible refine wp_region_app ?_); simp only [List.cons_append, List.nil_append]) | go_values | go_skip | go_guarded | go_step | go_upon))
  refine (rcalMay_c (CalP.mk o0 o1 o2 o3 o4 o5 o6 (some ⟨b, o, none⟩) cR rs D cD ds) _ (hc.below (by repeat (first | assumption | exact Below.refl _ _ | (with_reducible refine Below.drew ?_) | (with_reducible refine below_drewN' ?_ _) | (with_reducible refine below_al ?_) | ((with_reducible refine below_set ?_ ?_); rotate_left; focus (first | (simp; done) | (simp; omega))))))).mono ?_; rintro e w3 ⟨rfl, hb3⟩
  have hz3 := hb3.size; (try simp at hz3); obtain ⟨hc3, hf3⟩ := bcell hb3; have hB3 := below_step (w := w) hb3 (by repeat (first | assumption | exact Below.refl _ _ | (with_reducible refine Below.drew ?_) | (with_reducible refine below_drewN' ?_ _) | (with_reducible refine below_al ?_) | ((with_reducible refine below_set ?_ ?_); rotate_left; focus (first | (simp; done) | (simp; omega)))))
  have le_w_w3 : w.heap.size ≤ w3.heap.size := by omega
  try have lt_w_w3 : w.heap.size < w3.heap.size := by omega
  have le1_w_w3 : w.heap.size + 1 ≤ w3.heap.size := by omega
  try have lt1_w_w3 : w.heap.size + 1 < w3.heap.size := by omega
  have le_w1_w3 : w1.heap.size ≤ w3.heap.size := by omega
  try have lt_w1_w3 : w1.heap.size < w3.heap.size := by omega
  have le_w2_w3 : w2.heap.size ≤ w3.heap.size := by omega
  try have lt_w2_w3 : w2.heap.size < w3.heap.size := by omega
  go_upto_region 11 with fail
  generalize hW : (w3.alloc _) = w5
  have hblk : w5.heap[w3.heap.size]? = some (.cells #[.bool o0, .bool o1, .bool o2, .bool o3, .bool o4, .bool o5, .bool o6, .slice (some ⟨b, o, none⟩) rs.length cR, .slice D ds.length cD] 26 (0, 0)) := by rw [← hW]; exact blk_nu rfl
  have hw5 := Lib.hid (show w5.heap.size = w3.heap.size + 1 by rw [← hW]; simp)
  have hb5 : Below w3.heap.size w3 w5 := by rw [← hW]; exact below_al (Below.refl _ _)
  have hB5 : Below w.heap.size w w5 := hB3.trans (hb5.mono hB3.size)
  have hR := Lib.hid (hc.below hB5).r
  have HC := Lib.hid (hc.below hB3); have HL := Lib.hid (hL.below hB3); have HN := Lib.hid (hN.below hB3); have HB3 := Lib.hid hB3
  have g0 := Lib.hid (show w3.cell? ⟨w.heap.size + 1, 0, none⟩ = some (.bool o0) from below_some hb3 _ _ _ (below_some hb2 _ _ _ (below_some hb1 _ _ _ (cell_nu (by simp) rfl))))
  have g1 := Lib.hid (show w3.cell? ⟨w.heap.size + 1, 1, none⟩ = some (.bool o1) from below_some hb3 _ _ _ (below_some hb2 _ _ _ (below_some hb1 _ _ _ (cell_nu (by simp) rfl))))
  have g2 := Lib.hid (show w3.cell? ⟨w.heap.size + 1, 2, none⟩ = some (.bool o2) from below_some hb3 _ _ _ (below_some hb2 _ _ _ (below_some hb1 _ _ _ (cell_nu (by simp) rfl))))
  have g3 := Lib.hid (show w3.cell? ⟨w.heap.size + 1, 3, none⟩ = some (.bool o3) from below_some hb3 _ _ _ (below_some hb2 _ _ _ (below_some hb1 _ _ _ (cell_nu (by simp) rfl))))
  have g4 := Lib.hid (show w3.cell? ⟨w.heap.size + 1, 4, none⟩ = some (.bool o4) from below_some hb3 _ _ _ (below_some hb2 _ _ _ (below_some hb1 _ _ _ (cell_nu (by simp) rfl))))
  have g5 := Lib.hid (show w3.cell? ⟨w.heap.size + 1, 5, none⟩ = some (.bool o5) from below_some hb3 _ _ _ (below_some hb2 _ _ _ (below_some hb1 _ _ _ (cell_nu (by simp) rfl))))
  have g6 := Lib.hid (show w3.cell? ⟨w.heap.size + 1, 6, none⟩ = some (.bool o6) from below_some hb3 _ _ _ (below_some hb2 _ _ _ (below_some hb1 _ _ _ (cell_nu (by simp) rfl))))
  have g7 := Lib.hid (show w3.cell? ⟨w.heap.size + 1, 7, none⟩ = some (.slice (some ⟨b, o, none⟩) rs.length cR) from below_some hb3 _ _ _ (below_some hb2 _ _ _ (below_some hb1 _ _ _ (cell_nu (by simp) rfl))))
  have g8 := Lib.hid (show w3.cell? ⟨w.heap.size + 1, 8, none⟩ = some (.slice D ds.length cD) from below_some hb3 _ _ _ (below_some hb2 _ _ _ (below_some hb1 _ _ _ (cell_nu (by simp) rfl))))
  clear hW hc hL hN hB1 hB2 hB3 hb1 hb2 hb3 hc1 hf1 hc2 hf2 hc3 hf3
  have lt5 : w.heap.size + 1 < w5.heap.size := by have := hw5.out; omega
  have lt3 : w3.heap.size < w5.heap.size := by have := hw5.out; omega
  have g7' := below_some hb5 _ _ _ g7.out; have HB5 := Lib.hid hb5; clear hb5
  go_wp2_with (at_builtin; refine wpList_app_in rfl (.tmp 50) (.tmp 52) _ rfl w5.heap.size 68 i0 _ 8 64 Tryd.underlying23 hi0 hz0 hs0 hb0 (by rfl) (by decide) (.slice (some ⟨w5.heap.size, 0, none⟩) 0 0) 0 [] rfl (own_nil (blk_nu rfl) (Nat.le_refl _)) (some ⟨b, o, none⟩) rs.length cR (rs.flatMap R8.enc) rfl ((hR.out.below (by repeat (first | (with_reducible assumption) | (with_reducible exact Below.refl _ _) | (with_reducible refine Below.drew ?_) | (with_reducible refine below_drewN' ?_ _) | (with_reducible refine below_al ?_) | ((with_reducible refine below_set ?_ ?_); rotate_left; focus (first | (simp; done) | (simp; omega)))))).src) (flat_one _) (by unfold maxLen; omega) (by omega) (by simp) ?_; intro v1 w6 hown0 hg1; have hown1 : w6.ownsRow w5.heap.size 68 8 v1 rs.length (rs.flatMap R8.enc) := (by simpa using hown0); clear hown0; have hbq : Below w5.heap.size w5 w6 := Below.grown (below_al (Below.refl _ _)) hg1 (by simp) (fun k hk => by cases hk; simp); have hblk6 := blk_st hbq hblk; have hc6 : w6.cell? ⟨w3.heap.size, 7, none⟩ = some (.slice (some ⟨b, o, none⟩) rs.length cR) := blk_cell hblk6 rfl; have hf6 : w6.frozen? ⟨w3.heap.size, 7, none⟩ = false := blk_free hblk6; obtain ⟨g, cap, cur, rfl, hgb, hgh, hgn, hgm, hgs, hgt⟩ : ∃ g cap cur, v1 = .slice (some ⟨g, 0, none⟩) rs.length cap ∧ w5.heap.size ≤ g ∧ w6.heap[g]? = some (.cells cur 68 (0, 0)) ∧ rs.length ≤ cap ∧ cap ≤ maxLen ∧ cur.size = cap * 8 ∧ cur.toList.take (rs.length * 8) = rs.flatMap R8.enc := (hown1.2.resolve_left (fun h => by have := h.2; omega)); go_upto_region 12 with fail)
  generalize hW7 : (w6.setCell _ _) = w7
  have hblk7 : w7.heap[w3.heap.size]? = some (.cells #[.bool o0, .bool o1, .bool o2, .bool o3, .bool o4, .bool o5, .bool o6, .slice (some ⟨g, 0, none⟩) rs.length cap, .slice D ds.length cD] 26 (0, 0)) := by rw [← hW7]; have h := blk_set (i := 7) (u := .slice (some ⟨g, 0, none⟩) rs.length cap) hblk6; simpa using h
  have hgne : g ≠ w3.heap.size := by omega
  have hg7 : w7.heap[g]? = some (.cells cur 68 (0, 0)) := by rw [← hW7]; simp [World.setCell, Array.getElem?_modify, hgh]; omega
  have HB7 : Hid (Below w3.heap.size w3 w7) := Lib.hid (by rw [← hW7]; exact below_set (HB5.out.trans (hbq.mono HB5.out.size)) (Nat.le_refl _))
  have HG := Lib.hid hgt; clear hgt
  have HXr : ∃ rx, rs[x]! = rx := ⟨_, rfl⟩
  have HYr : ∃ ry, rs[y]! = ry := ⟨_, rfl⟩
  obtain ⟨rx, hrx⟩ := HXr
  obtain ⟨ry, hry⟩ := HYr
  have hcx : ∀ z : Nat, z < rs.length → ∀ q u, (rs[z]!.enc)[q]? = some u → w7.cell? ⟨g, z * 8 + q, none⟩ = some u := fun z hz q u hu => blk_cell hg7 (by rw [← Array.getElem?_toList]; exact flat_at HG.out z q u hz hu)
  have hfx : ∀ q : Nat, w7.frozen? ⟨g, q, none⟩ = false := fun q => blk_free hg7
  have cx0 : w7.cell? ⟨g, x * 8, none⟩ = some (.int .i64 rx.kd) := hcx x hxl 0 _ (by rw [hrx]; rfl)
  have cx1 : w7.cell? ⟨g, x * 8 + 1, none⟩ = some (.int .i64 rx.mo) := hcx x hxl 1 _ (by rw [hrx]; rfl)
  have cx2 : w7.cell? ⟨g, x * 8 + 2, none⟩ = some (.int .i64 rx.da) := hcx x hxl 2 _ (by rw [hrx]; rfl)
  have cx3 : w7.cell? ⟨g, x * 8 + 3, none⟩ = some (.int .i64 rx.kk) := hcx x hxl 3 _ (by rw [hrx]; rfl)
  have cx4 : w7.cell? ⟨g, x * 8 + 4, none⟩ = some (.int .i64 rx.off) := hcx x hxl 4 _ (by rw [hrx]; rfl)
  have cx5 : w7.cell? ⟨g, x * 8 + 5, none⟩ = some (.int .i64 rx.sh) := hcx x hxl 5 _ (by rw [hrx]; rfl)
  have cx6 : w7.cell? ⟨g, x * 8 + 6, none⟩ = some (.int .i64 rx.fr) := hcx x hxl 6 _ (by rw [hrx]; rfl)
  have cx7 : w7.cell? ⟨g, x * 8 + 7, none⟩ = some (.int .i64 rx.to) := hcx x hxl 7 _ (by rw [hrx]; rfl)
  have cy0 : w7.cell? ⟨g, y * 8, none⟩ = some (.int .i64 ry.kd) := hcx y hyl 0 _ (by rw [hry]; rfl)
  have cy1 : w7.cell? ⟨g, y * 8 + 1, none⟩ = some (.int .i64 ry.mo) := hcx y hyl 1 _ (by rw [hry]; rfl)
  have cy2 : w7.cell? ⟨g, y * 8 + 2, none⟩ = some (.int .i64 ry.da) := hcx y hyl 2 _ (by rw [hry]; rfl)
  have cy3 : w7.cell? ⟨g, y * 8 + 3, none⟩ = some (.int .i64 ry.kk) := hcx y hyl 3 _ (by rw [hry]; rfl)
  have cy4 : w7.cell? ⟨g, y * 8 + 4, none⟩ = some (.int .i64 ry.off) := hcx y hyl 4 _ (by rw [hry]; rfl)
  have cy5 : w7.cell? ⟨g, y * 8 + 5, none⟩ = some (.int .i64 ry.sh) := hcx y hyl 5 _ (by rw [hry]; rfl)
  have cy6 : w7.cell? ⟨g, y * 8 + 6, none⟩ = some (.int .i64 ry.fr) := hcx y hyl 6 _ (by rw [hry]; rfl)
  have cy7 : w7.cell? ⟨g, y * 8 + 7, none⟩ = some (.int .i64 ry.to) := hcx y hyl 7 _ (by rw [hry]; rfl)
  have c10 : w7.cell? ⟨w3.heap.size, 7, none⟩ = some (.slice (some ⟨g, 0, none⟩) rs.length cap) := blk_cell hblk7 rfl
  have HRX := Lib.hid hrx; have HRY := Lib.hid hry; clear hrx hry
  clear hcx hW7 hblk hc6 hf6 hblk6 hgh
  obtain ⟨u0, hu0⟩ : ∃ u, ((((((((w7.setCell ⟨g, x * 8, none⟩ (.int .i64 ry.kd)).setCell ⟨g, x * 8 + 1, none⟩ (.int .i64 ry.mo)).setCell ⟨g, x * 8 + 2, none⟩ (.int .i64 ry.da)).setCell ⟨g, x * 8 + 3, none⟩ (.int .i64 ry.kk)).setCell ⟨g, x * 8 + 4, none⟩ (.int .i64 ry.off)).setCell ⟨g, x * 8 + 5, none⟩ (.int .i64 ry.sh)).setCell ⟨g, x * 8 + 6, none⟩ (.int .i64 ry.fr)).setCell ⟨g, x * 8 + 7, none⟩ (.int .i64 ry.to)).cell? ⟨g, y * 8, none⟩ = some u := some_set8 (some_set8 (some_set8 (some_set8 (some_set8 (some_set8 (some_set8 (some_set8 ⟨_, cy0⟩)))))))
  obtain ⟨u1, hu1⟩ : ∃ u, ((((((((w7.setCell ⟨g, x * 8, none⟩ (.int .i64 ry.kd)).setCell ⟨g, x * 8 + 1, none⟩ (.int .i64 ry.mo)).setCell ⟨g, x * 8 + 2, none⟩ (.int .i64 ry.da)).setCell ⟨g, x * 8 + 3, none⟩ (.int .i64 ry.kk)).setCell ⟨g, x * 8 + 4, none⟩ (.int .i64 ry.off)).setCell ⟨g, x * 8 + 5, none⟩ (.int .i64 ry.sh)).setCell ⟨g, x * 8 + 6, none⟩ (.int .i64 ry.fr)).setCell ⟨g, x * 8 + 7, none⟩ (.int .i64 ry.to)).cell? ⟨g, y * 8 + 1, none⟩ = some u := some_set8 (some_set8 (some_set8 (some_set8 (some_set8 (some_set8 (some_set8 (some_set8 ⟨_, cy1⟩)))))))
  obtain ⟨u2, hu2⟩ : ∃ u, ((((((((w7.setCell ⟨g, x * 8, none⟩ (.int .i64 ry.kd)).setCell ⟨g, x * 8 + 1, none⟩ (.int .i64 ry.mo)).setCell ⟨g, x * 8 + 2, none⟩ (.int .i64 ry.da)).setCell ⟨g, x * 8 + 3, none⟩ (.int .i64 ry.kk)).setCell ⟨g, x * 8 + 4, none⟩ (.int .i64 ry.off)).setCell ⟨g, x * 8 + 5, none⟩ (.int .i64 ry.sh)).setCell ⟨g, x * 8 + 6, none⟩ (.int .i64 ry.fr)).setCell ⟨g, x * 8 + 7, none⟩ (.int .i64 ry.to)).cell? ⟨g, y * 8 + 2, none⟩ = some u := some_set8 (some_set8 (some_set8 (some_set8 (some_set8 (some_set8 (some_set8 (some_set8 ⟨_, cy2⟩)))))))
  obtain ⟨u3, hu3⟩ : ∃ u, ((((((((w7.setCell ⟨g, x * 8, none⟩ (.int .i64 ry.kd)).setCell ⟨g, x * 8 + 1, none⟩ (.int .i64 ry.mo)).setCell ⟨g, x * 8 + 2, none⟩ (.int .i64 ry.da)).setCell ⟨g, x * 8 + 3, none⟩ (.int .i64 ry.kk)).setCell ⟨g, x * 8 + 4, none⟩ (.int .i64 ry.off)).setCell ⟨g, x * 8 + 5, none⟩ (.int .i64 ry.sh)).setCell ⟨g, x * 8 + 6, none⟩ (.int .i64 ry.fr)).setCell ⟨g, x * 8 + 7, none⟩ (.int .i64 ry.to)).cell? ⟨g, y * 8 + 3, none⟩ = some u := some_set8 (some_set8 (some_set8 (some_set8 (some_set8 (some_set8 (some_set8 (some_set8 ⟨_, cy3⟩)))))))
  obtain ⟨u4, hu4⟩ : ∃ u, ((((((((w7.setCell ⟨g, x * 8, none⟩ (.int .i64 ry.kd)).setCell ⟨g, x * 8 + 1, none⟩ (.int .i64 ry.mo)).setCell ⟨g, x * 8 + 2, none⟩ (.int .i64 ry.da)).setCell ⟨g, x * 8 + 3, none⟩ (.int .i64 ry.kk)).setCell ⟨g, x * 8 + 4, none⟩ (.int .i64 ry.off)).setCell ⟨g, x * 8 + 5, none⟩ (.int .i64 ry.sh)).setCell ⟨g, x * 8 + 6, none⟩ (.int .i64 ry.fr)).setCell ⟨g, x * 8 + 7, none⟩ (.int .i64 ry.to)).cell? ⟨g, y * 8 + 4, none⟩ = some u := some_set8 (some_set8 (some_set8 (some_set8 (some_set8 (some_set8 (some_set8 (some_set8 ⟨_, cy4⟩)))))))
  obtain ⟨u5, hu5⟩ : ∃ u, ((((((((w7.setCell ⟨g, x * 8, none⟩ (.int .i64 ry.kd)).setCell ⟨g, x * 8 + 1, none⟩ (.int .i64 ry.mo)).setCell ⟨g, x * 8 + 2, none⟩ (.int .i64 ry.da)).setCell ⟨g, x * 8 + 3, none⟩ (.int .i64 ry.kk)).setCell ⟨g, x * 8 + 4, none⟩ (.int .i64 ry.off)).setCell ⟨g, x * 8 + 5, none⟩ (.int .i64 ry.sh)).setCell ⟨g, x * 8 + 6, none⟩ (.int .i64 ry.fr)).setCell ⟨g, x * 8 + 7, none⟩ (.int .i64 ry.to)).cell? ⟨g, y * 8 + 5, none⟩ = some u := some_set8 (some_set8 (some_set8 (some_set8 (some_set8 (some_set8 (some_set8 (some_set8 ⟨_, cy5⟩)))))))
  obtain ⟨u6, hu6⟩ : ∃ u, ((((((((w7.setCell ⟨g, x * 8, none⟩ (.int .i64 ry.kd)).setCell ⟨g, x * 8 + 1, none⟩ (.int .i64 ry.mo)).setCell ⟨g, x * 8 + 2, none⟩ (.int .i64 ry.da)).setCell ⟨g, x * 8 + 3, none⟩ (.int .i64 ry.kk)).setCell ⟨g, x * 8 + 4, none⟩ (.int .i64 ry.off)).setCell ⟨g, x * 8 + 5, none⟩ (.int .i64 ry.sh)).setCell ⟨g, x * 8 + 6, none⟩ (.int .i64 ry.fr)).setCell ⟨g, x * 8 + 7, none⟩ (.int .i64 ry.to)).cell? ⟨g, y * 8 + 6, none⟩ = some u := some_set8 (some_set8 (some_set8 (some_set8 (some_set8 (some_set8 (some_set8 (some_set8 ⟨_, cy6⟩)))))))
  obtain ⟨u7, hu7⟩ : ∃ u, ((((((((w7.setCell ⟨g, x * 8, none⟩ (.int .i64 ry.kd)).setCell ⟨g, x * 8 + 1, none⟩ (.int .i64 ry.mo)).setCell ⟨g, x * 8 + 2, none⟩ (.int .i64 ry.da)).setCell ⟨g, x * 8 + 3, none⟩ (.int .i64 ry.kk)).setCell ⟨g, x * 8 + 4, none⟩ (.int .i64 ry.off)).setCell ⟨g, x * 8 + 5, none⟩ (.int .i64 ry.sh)).setCell ⟨g, x * 8 + 6, none⟩ (.int .i64 ry.fr)).setCell ⟨g, x * 8 + 7, none⟩ (.int .i64 ry.to)).cell? ⟨g, y * 8 + 7, none⟩ = some u := some_set8 (some_set8 (some_set8 (some_set8 (some_set8 (some_set8 (some_set8 (some_set8 ⟨_, cy7⟩)))))))
  go_cut [] (fun wx => wx.heap[w3.heap.size]? = some (.cells #[.bool o0, .bool o1, .bool o2, .bool o3, .bool o4, .bool o5, .bool o6, .slice (some ⟨g, 0, none⟩) rs.length cap, .slice D ds.length cD] 26 (0, 0)) ∧ wx.heap[g]? = some (.cells (put8 (put8 cur (x * 8) ry) (y * 8) rx) 68 (0, 0)) ∧ Below w3.heap.size w3 wx)
  case first =>
    go_region
    go_wp2_with fail
    go_meet
    refine ⟨?_, ?_, ?_⟩
    · (repeat (first | (with_reducible exact hblk7) | (with_reducible refine blk_dr ?_) | (with_reducible refine blk_off hgne ?_)))
    · unfold put8; (repeat (first | (with_reducible exact hg7) | (with_reducible refine blk_dr ?_) | (with_reducible refine blk_set ?_)))
    · have hB7 := HB7.out; have hgl : w3.heap.size ≤ g := by (have := hw5.out; omega)
      repeat (first | (with_reducible exact hB7) | (with_reducible refine Below.drew ?_) | (with_reducible refine below_set ?_ hgl))
  case rest =>
    obtain ⟨hbk, hbg, hBx⟩ := hcut
    obtain ⟨v0, hv0⟩ : ∃ v0, v0 = wc := ⟨_, rfl⟩
    subst hv0
    have HSW : Hid (RIn v0 (some ⟨g, 0, none⟩) (swp rs x y)) := Lib.hid (rin_swp hxl hyl HRX.out HRY.out hgn hgs HG.out hbg)
    have HC0 := Lib.hid (HC.out.below hBx); have HL0 := Lib.hid (HL.out.below hBx); have HN0 := Lib.hid (HN.out.below hBx); have HB0 : Hid (Below w.heap.size w v0) := Lib.hid (HB3.out.trans (hBx.mono HB3.out.size))
    have HBK := Lib.hid hbk
    have z3 := hBx.size
    have lv1 : w.heap.size + 1 < v0.heap.size := by have := hw5.out; omega
    have f0 := below_some hBx _ _ _ g0.out; clear g0
    have f1 := below_some hBx _ _ _ g1.out; clear g1
    have f2 := below_some hBx _ _ _ g2.out; clear g2
    have f3 := below_some hBx _ _ _ g3.out; clear g3
    have f4 := below_some hBx _ _ _ g4.out; clear g4
    have f5 := below_some hBx _ _ _ g5.out; clear g5
    have f6 := below_some hBx _ _ _ g6.out; clear g6
    have f7 := below_some hBx _ _ _ g7.out; clear g7
    have f8 := below_some hBx _ _ _ g8.out; clear g8
    have HRX2 : ∀ q u, (rx.enc)[q]? = some u → v0.cell? ⟨b, o + x * 8 + q, none⟩ = some u := fun q u hu => by
        rcases HC0.out.r with h | ⟨b', o', h1, h2, h3⟩
        · exact absurd hxl (by rw [show rs = [] from h]; simp)
        · cases h1; exact h3 x hxl q u (by rw [← HRX.out] at hu; exact hu)
    have k0 : v0.cell? ⟨b, o + x * 8, none⟩ = some (.int .i64 rx.kd) := HRX2 0 _ rfl
    have k1 : v0.cell? ⟨b, o + x * 8 + 1, none⟩ = some (.int .i64 rx.mo) := HRX2 1 _ rfl
    have k2 : v0.cell? ⟨b, o + x * 8 + 2, none⟩ = some (.int .i64 rx.da) := HRX2 2 _ rfl
    have k3 : v0.cell? ⟨b, o + x * 8 + 3, none⟩ = some (.int .i64 rx.kk) := HRX2 3 _ rfl
    have k4 : v0.cell? ⟨b, o + x * 8 + 4, none⟩ = some (.int .i64 rx.off) := HRX2 4 _ rfl
    have k5 : v0.cell? ⟨b, o + x * 8 + 5, none⟩ = some (.int .i64 rx.sh) := HRX2 5 _ rfl
    have k6 : v0.cell? ⟨b, o + x * 8 + 6, none⟩ = some (.int .i64 rx.fr) := HRX2 6 _ rfl
    have k7 : v0.cell? ⟨b, o + x * 8 + 7, none⟩ = some (.int .i64 rx.to) := HRX2 7 _ rfl
    clear HRX2 hbk hbg hBx hgne HB7 HB5 hbq hblk7 hg7 hfx hgb hgn hgm hgs HG hown1 hg1
    clear cx0 cy0 hu0 cx1 cy1 hu1 cx2 cy2 hu2 cx3 cy3 hu3 cx4 cy4 hu4 cx5 cy5 hu5 cx6 cy6 hu6 cx7 cy7 hu7 c10 lt5 lt3 g7'
    go_upto_region 14 with fail
    have hRS : ∃ rs', rs ++ [rx] = rs' := ⟨_, rfl⟩
    obtain ⟨rs', hrs⟩ := hRS
    have HRS := Lib.hid hrs; clear hrs
    have HLEN := Lib.hid (show rs'.length = rs.length + 1 by rw [← HRS.out]; simp)
    generalize hW9 : (v0.alloc _) = w9
    have hblk9 : w9.heap[v0.heap.size]? = some (.cells #[.bool o0, .bool o1, .bool o2, .bool o3, .bool o4, .bool o5, .bool o6, .slice (some ⟨b, o, none⟩) rs.length cR, .slice D ds.length cD] 26 (0, 0)) := by rw [← hW9]; exact blk_nu rfl
    have hw9 : w9.heap.size = v0.heap.size + 1 := by rw [← hW9]; simp
    have hb9 : Below v0.heap.size v0 w9 := by rw [← hW9]; exact below_al (Below.refl _ _)
    clear hW9
    have hR9 := Lib.hid HC0.out.r
    have HS : Hid (∀ W, Below v0.heap.size v0 W → (fun w' => Below v0.heap.size v0 w' ∧ w'.cell? ⟨w.heap.size + 1, 7, none⟩ = some (.slice (some ⟨b, o, none⟩) rs.length cR) ∧ w'.cell? ⟨b, o + x * 8, none⟩ = some (.int .i64 rx.kd) ∧ w'.cell? ⟨b, o + x * 8 + 1, none⟩ = some (.int .i64 rx.mo) ∧ w'.cell? ⟨b, o + x * 8 + 2, none⟩ = some (.int .i64 rx.da) ∧ w'.cell? ⟨b, o + x * 8 + 3, none⟩ = some (.int .i64 rx.kk) ∧ w'.cell? ⟨b, o + x * 8 + 4, none⟩ = some (.int .i64 rx.off) ∧ w'.cell? ⟨b, o + x * 8 + 5, none⟩ = some (.int .i64 rx.sh) ∧ w'.cell? ⟨b, o + x * 8 + 6, none⟩ = some (.int .i64 rx.fr) ∧ w'.cell? ⟨b, o + x * 8 + 7, none⟩ = some (.int .i64 rx.to)) W) := Lib.hid (fun W h => ⟨h, below_some h _ _ _ f7, below_some h _ _ _ k0, below_some h _ _ _ k1, below_some h _ _ _ k2, below_some h _ _ _ k3, below_some h _ _ _ k4, below_some h _ _ _ k5, below_some h _ _ _ k6, below_some h _ _ _ k7⟩)
    go_cut [] (fun wx => ∃ (A : Option Addr) (cR' : Nat), wx.heap[v0.heap.size]? = some (.cells #[.bool o0, .bool o1, .bool o2, .bool o3, .bool o4, .bool o5, .bool o6, .slice A rs'.length cR', .slice D ds.length cD] 26 (0, 0)) ∧ RIn wx A rs' ∧ Below v0.heap.size v0 wx)
    case first =>
      have hRf : Below v0.heap.size v0 v0 := Below.refl _ _
      go_region_held3 (fun w' => Below v0.heap.size v0 w' ∧ w'.cell? ⟨w.heap.size + 1, 7, none⟩ = some (.slice (some ⟨b, o, none⟩) rs.length cR) ∧ w'.cell? ⟨b, o + x * 8, none⟩ = some (.int .i64 rx.kd) ∧ w'.cell? ⟨b, o + x * 8 + 1, none⟩ = some (.int .i64 rx.mo) ∧ w'.cell? ⟨b, o + x * 8 + 2, none⟩ = some (.int .i64 rx.da) ∧ w'.cell? ⟨b, o + x * 8 + 3, none⟩ = some (.int .i64 rx.kk) ∧ w'.cell? ⟨b, o + x * 8 + 4, none⟩ = some (.int .i64 rx.off) ∧ w'.cell? ⟨b, o + x * 8 + 5, none⟩ = some (.int .i64 rx.sh) ∧ w'.cell? ⟨b, o + x * 8 + 6, none⟩ = some (.int .i64 rx.fr) ∧ w'.cell? ⟨b, o + x * 8 + 7, none⟩ = some (.int .i64 rx.to)) ((refine HS.out _ ?_; repeat (first | (with_reducible assumption) | (with_reducible exact Below.refl _ _) | (with_reducible refine Below.drew ?_) | (with_reducible refine below_drewN' ?_ _) | (with_reducible refine below_al ?_) | ((with_reducible refine below_set ?_ ?_); rotate_left; focus (first | (simp; done) | (simp; omega)))))) (first | (rw [if_pos (by rfl)]; refine wpOper_app_in (.tmp 74) (.tmp 76) _ rfl w9.heap.size 68 i0 _ 8 64 Tryd.underlying23 hi0 hz0 hs0 hb0 (by rfl) (by decide) (.slice (some ⟨_, 0, none⟩) 0 0) 0 [] rfl (own_nil (by repeat (first | assumption | (with_reducible refine blk_dr ?_) | (refine blk_nu (by first | (simp; done) | omega | (simp; omega))) | (with_reducible refine blk_al ?_))) (by first | omega | (simp; done) | (simp; omega))) (some ⟨b, o, none⟩) rs.length cR (rs.flatMap R8.enc) rfl ((hR9.out.below (by repeat (first | (with_reducible assumption) | (with_reducible exact Below.refl _ _) | (with_reducible refine Below.drew ?_) | (with_reducible refine below_drewN' ?_ _) | (with_reducible refine below_al ?_) | ((with_reducible refine below_set ?_ ?_); rotate_left; focus (first | (simp; done) | (simp; omega)))))).src) (flat_one _) (by unfold maxLen; omega) (by omega) (by first | omega | (simp; done) | (simp; omega)) ?_; intro v1 w6 hown0 hg1; have hown1 : w6.ownsRow w9.heap.size 68 8 v1 rs.length (rs.flatMap R8.enc) := (by simpa using hown0); clear hown0; obtain ⟨A1, c1, rfl⟩ := owns_any hown1; have hbq : Below v0.heap.size v0 w6 := Below.grown (by repeat (first | (with_reducible assumption) | (with_reducible exact Below.refl _ _) | (with_reducible refine Below.drew ?_) | (with_reducible refine below_drewN' ?_ _) | (with_reducible refine below_al ?_) | ((with_reducible refine below_set ?_ ?_); rotate_left; focus (first | (simp; done) | (simp; omega))))) hg1 (by first | omega | (simp; done) | (simp; omega)) (fun k hk => by cases hk; first | omega | (simp; done) | (simp; omega)); have hz6 := hg1.size; (try simp at hz6); have hblk6 : w6.heap[v0.heap.size]? = some (.cells #[.bool o0, .bool o1, .bool o2, .bool o3, .bool o4, .bool o5, .bool o6, .slice (some ⟨b, o, none⟩) rs.length cR, .slice D ds.length cD] 26 (0, 0)) := blk_gr hg1 (by simp [Value.ownBlock] <;> omega) (by repeat (first | assumption | (with_reducible refine blk_dr ?_) | (refine blk_nu (by first | (simp; done) | omega | (simp; omega))) | (with_reducible refine blk_al ?_)))) | (rw [if_pos (by rfl)]; refine wpOper_app_in (.tmp 77) (.tmp 83) _ rfl w9.heap.size 68 i0 _ 8 64 Tryd.underlying23 hi0 hz0 hs0 hb0 (by rfl) (by decide) (.slice A1 rs.length c1) rs.length (rs.flatMap R8.enc) rfl (own_of hown1 (fun k B h => by repeat (first | assumption | (with_reducible refine blk_dr ?_) | (with_reducible refine blk_al ?_)))) _ 1 1 rx.enc rfl (src_blk (cs := rx.enc.toArray) (by repeat (first | assumption | (with_reducible refine blk_dr ?_) | (refine blk_nu (by first | (simp; done) | omega | (simp; omega))) | (with_reducible refine blk_al ?_) | (refine blk_gr hg1 (by simp [Value.ownBlock] <;> omega) ?_))) rfl) (enc_one rx) (by unfold maxLen; omega) (by omega) (by first | omega | (simp; done) | (simp; omega)) ?_; intro v2 w7 hown2 hg2; have hown3 : w7.ownsRow w9.heap.size 68 8 v2 (rs.length + 1) (rs'.flatMap R8.enc) := (by rw [← HRS.out, List.flatMap_append]; simpa using hown2); obtain ⟨A, cR', rfl, hr2⟩ := owns_rules hown3; have hbq2 : Below v0.heap.size v0 w7 := Below.grown (by repeat (first | (with_reducible assumption) | (with_reducible exact Below.refl _ _) | (with_reducible refine Below.drew ?_) | (with_reducible refine below_drewN' ?_ _) | (with_reducible refine below_al ?_) | ((with_reducible refine below_set ?_ ?_); rotate_left; focus (first | (simp; done) | (simp; omega))))) hg2 (by first | omega | (simp; done) | (simp; omega)) (fun k hk => by have := (hown1.lt k hk).1; omega); have hz7 := hg2.size; (try simp at hz7); have hblk7 : w7.heap[v0.heap.size]? = some (.cells #[.bool o0, .bool o1, .bool o2, .bool o3, .bool o4, .bool o5, .bool o6, .slice (some ⟨b, o, none⟩) rs.length cR, .slice D ds.length cD] 26 (0, 0)) := blk_gr hg2 (fun e => by have := (hown1.lt _ e).1; omega) (by repeat (first | assumption | (with_reducible refine blk_dr ?_) | (refine blk_nu (by first | (simp; done) | omega | (simp; omega))) | (with_reducible refine blk_al ?_))); have hc7 : w7.cell? ⟨v0.heap.size, 7, none⟩ = some (.slice (some ⟨b, o, none⟩) rs.length cR) := blk_cell hblk7 rfl; have hf7 : w7.frozen? ⟨v0.heap.size, 7, none⟩ = false := blk_free hblk7))
      all_goals (go_wp2_with fail; go_meet; exact ⟨A, cR', by have h := blk_set (i := 7) (u := .slice A rs'.length cR') hblk7; simpa using h, ((hr2.bt (owns_base hown3)).set (Or.inl (by omega))).to (by simp), below_set hbq2 (Nat.le_refl _)⟩)
    case rest =>
      obtain ⟨A, cR', hbk2, hrA, hBx2⟩ := hcut
      have hB8 : Below w.heap.size w wc := HB0.out.trans (hBx2.mono HB0.out.size)
      have Fc0 : Hid (wc.cell? ⟨w.heap.size + 1, 0, none⟩ = some (.bool o0)) := Lib.hid (below_some hBx2 _ _ _ f0)
      have Fc1 : Hid (wc.cell? ⟨w.heap.size + 1, 1, none⟩ = some (.bool o1)) := Lib.hid (below_some hBx2 _ _ _ f1)
      have Fc2 : Hid (wc.cell? ⟨w.heap.size + 1, 2, none⟩ = some (.bool o2)) := Lib.hid (below_some hBx2 _ _ _ f2)
      have Fc3 : Hid (wc.cell? ⟨w.heap.size + 1, 3, none⟩ = some (.bool o3)) := Lib.hid (below_some hBx2 _ _ _ f3)
      have Fc4 : Hid (wc.cell? ⟨w.heap.size + 1, 4, none⟩ = some (.bool o4)) := Lib.hid (below_some hBx2 _ _ _ f4)
      have Fc5 : Hid (wc.cell? ⟨w.heap.size + 1, 5, none⟩ = some (.bool o5)) := Lib.hid (below_some hBx2 _ _ _ f5)
      have Fc6 : Hid (wc.cell? ⟨w.heap.size + 1, 6, none⟩ = some (.bool o6)) := Lib.hid (below_some hBx2 _ _ _ f6)
      have Fc7 : Hid (wc.cell? ⟨w.heap.size + 1, 7, none⟩ = some (.slice (some ⟨b, o, none⟩) rs.length cR)) := Lib.hid (below_some hBx2 _ _ _ f7)
      have Fc8 : Hid (wc.cell? ⟨w.heap.size + 1, 8, none⟩ = some (.slice D ds.length cD)) := Lib.hid (below_some hBx2 _ _ _ f8)
      have Fd0 : Hid (wc.cell? ⟨w3.heap.size, 0, none⟩ = some (.bool o0)) := Lib.hid (blk_cell (blk_st hBx2 HBK.out) rfl)
      have Fd1 : Hid (wc.cell? ⟨w3.heap.size, 1, none⟩ = some (.bool o1)) := Lib.hid (blk_cell (blk_st hBx2 HBK.out) rfl)
      have Fd2 : Hid (wc.cell? ⟨w3.heap.size, 2, none⟩ = some (.bool o2)) := Lib.hid (blk_cell (blk_st hBx2 HBK.out) rfl)
      have Fd3 : Hid (wc.cell? ⟨w3.heap.size, 3, none⟩ = some (.bool o3)) := Lib.hid (blk_cell (blk_st hBx2 HBK.out) rfl)
      have Fd4 : Hid (wc.cell? ⟨w3.heap.size, 4, none⟩ = some (.bool o4)) := Lib.hid (blk_cell (blk_st hBx2 HBK.out) rfl)
      have Fd5 : Hid (wc.cell? ⟨w3.heap.size, 5, none⟩ = some (.bool o5)) := Lib.hid (blk_cell (blk_st hBx2 HBK.out) rfl)
      have Fd6 : Hid (wc.cell? ⟨w3.heap.size, 6, none⟩ = some (.bool o6)) := Lib.hid (blk_cell (blk_st hBx2 HBK.out) rfl)
      have Fd7 : Hid (wc.cell? ⟨w3.heap.size, 7, none⟩ = some (.slice (some ⟨g, 0, none⟩) rs.length cap)) := Lib.hid (blk_cell (blk_st hBx2 HBK.out) rfl)
      have Fd8 : Hid (wc.cell? ⟨w3.heap.size, 8, none⟩ = some (.slice D ds.length cD)) := Lib.hid (blk_cell (blk_st hBx2 HBK.out) rfl)
      have Fe0 : Hid (wc.cell? ⟨v0.heap.size, 0, none⟩ = some (.bool o0)) := Lib.hid (blk_cell hbk2 rfl)
      have Fe1 : Hid (wc.cell? ⟨v0.heap.size, 1, none⟩ = some (.bool o1)) := Lib.hid (blk_cell hbk2 rfl)
      have Fe2 : Hid (wc.cell? ⟨v0.heap.size, 2, none⟩ = some (.bool o2)) := Lib.hid (blk_cell hbk2 rfl)
      have Fe3 : Hid (wc.cell? ⟨v0.heap.size, 3, none⟩ = some (.bool o3)) := Lib.hid (blk_cell hbk2 rfl)
      have Fe4 : Hid (wc.cell? ⟨v0.heap.size, 4, none⟩ = some (.bool o4)) := Lib.hid (blk_cell hbk2 rfl)
      have Fe5 : Hid (wc.cell? ⟨v0.heap.size, 5, none⟩ = some (.bool o5)) := Lib.hid (blk_cell hbk2 rfl)
      have Fe6 : Hid (wc.cell? ⟨v0.heap.size, 6, none⟩ = some (.bool o6)) := Lib.hid (blk_cell hbk2 rfl)
      have Fe7 : Hid (wc.cell? ⟨v0.heap.size, 7, none⟩ = some (.slice A rs'.length cR')) := Lib.hid (blk_cell hbk2 rfl)
      have Fe8 : Hid (wc.cell? ⟨v0.heap.size, 8, none⟩ = some (.slice D ds.length cD)) := Lib.hid (blk_cell hbk2 rfl)
      have IC := Lib.hid (HC0.out.below hBx2); have IL := Lib.hid (HL0.out.below hBx2); have IN := Lib.hid (HN0.out.below hBx2)
      have ID : Hid (CalIn wc ((CalP.mk o0 o1 o2 o3 o4 o5 o6 (some ⟨b, o, none⟩) cR rs D cD ds).withR (some ⟨g, 0, none⟩) cap (swp rs x y))) := Lib.hid ⟨HSW.out.below hBx2, IC.out.d⟩
      have IE : Hid (CalIn wc ((CalP.mk o0 o1 o2 o3 o4 o5 o6 (some ⟨b, o, none⟩) cR rs D cD ds).withR A cR' rs')) := Lib.hid ⟨hrA, IC.out.d⟩
      have hall : ∀ r ∈ rs, r.may = true := (CalP.may_iff.1 hm).2.2.2.1
      have hmx : ∀ r, r ∈ rs' ↔ r ∈ rs := fun r => by rw [← HRS.out, ← HRX.out]; exact mem_more rs x hxl r
      have MD : Hid (((CalP.mk o0 o1 o2 o3 o4 o5 o6 (some ⟨b, o, none⟩) cR rs D cD ds).withR (some ⟨g, 0, none⟩) cap (swp rs x y)).may = true) := Lib.hid (withR_may _ _ hm (by rw [swp_len]; omega) (fun r hr => hall r ((mem_swp rs x y hxl hyl r).1 hr)))
      have ME : Hid (((CalP.mk o0 o1 o2 o3 o4 o5 o6 (some ⟨b, o, none⟩) cR rs D cD ds).withR A cR' rs').may = true) := Lib.hid (withR_may _ _ hm (by rw [HLEN.out]; omega) (fun r hr => hall r ((hmx r).1 hr)))
      have KC := Lib.hid (CalP.ok hm); have KD := Lib.hid (CalP.ok MD.out); have KE := Lib.hid (CalP.ok ME.out)
      have ED : Hid (((CalP.mk o0 o1 o2 o3 o4 o5 o6 (some ⟨b, o, none⟩) cR rs D cD ds).withR (some ⟨g, 0, none⟩) cap (swp rs x y)).is n = v) := Lib.hid ((withR_is (CalP.mk o0 o1 o2 o3 o4 o5 o6 (some ⟨b, o, none⟩) cR rs D cD ds) _ _ _ n (any_mem (mem_swp rs x y hxl hyl))).trans eV.out)
      have EE : Hid (((CalP.mk o0 o1 o2 o3 o4 o5 o6 (some ⟨b, o, none⟩) cR rs D cD ds).withR A cR' rs').is n = v) := Lib.hid ((withR_is (CalP.mk o0 o1 o2 o3 o4 o5 o6 (some ⟨b, o, none⟩) cR rs D cD ds) _ _ _ n (any_mem hmx)).trans eV.out)
      have LD : Hid (((CalP.mk o0 o1 o2 o3 o4 o5 o6 (some ⟨b, o, none⟩) cR rs D cD ds).withR (some ⟨g, 0, none⟩) cap (swp rs x y)).rs.length = rs.length) := Lib.hid (swp_len rs x y)
      clear hbk2 hrA hBx2 hall hmx HS hblk9 hw9 hb9 hf hm f0 k0 f1 k1 f2 k2 f3 k3 f4 k4 f5 k5 f6 k6 f7 k7 f8
      have h9 : Hid (Below wc.heap.size wc wc) := Lib.hid (Below.refl _ _)
      have dc0 := below_some h9.out _ _ _ Fc0.out
      have dc1 := below_some h9.out _ _ _ Fc1.out
      have dc2 := below_some h9.out _ _ _ Fc2.out
      have dc3 := below_some h9.out _ _ _ Fc3.out
      have dc4 := below_some h9.out _ _ _ Fc4.out
      have dc5 := below_some h9.out _ _ _ Fc5.out
      have dc6 := below_some h9.out _ _ _ Fc6.out
      have dc7 := below_some h9.out _ _ _ Fc7.out
      have dc8 := below_some h9.out _ _ _ Fc8.out
      (try go_simp); (repeat (first | ((with_reducible refine wp_region_app ?_); simp only [List.cons_append, List.nil_append]) | go_values | go_skip | go_guarded | go_step | go_upon))
      refine (isV_c (CalP.mk o0 o1 o2 o3 o4 o5 o6 (some ⟨b, o, none⟩) cR rs D cD ds) n _ eV KC.out _ (IL.out.below (by have h9 := h9.out; repeat (first | (with_reducible assumption) | (with_reducible exact Below.refl _ _) | (with_reducible refine Below.drew ?_) | (with_reducible refine below_drewN' ?_ _) | (with_reducible refine below_al ?_) | ((with_reducible refine below_set ?_ ?_); rotate_left; focus (first | (simp; done) | (simp; omega)))))) (IC.out.below (by have h9 := h9.out; repeat (first | (with_reducible assumption) | (with_reducible exact Below.refl _ _) | (with_reducible refine Below.drew ?_) | (with_reducible refine below_drewN' ?_ _) | (with_reducible refine below_al ?_) | ((with_reducible refine below_set ?_ ?_); rotate_left; focus (first | (simp; done) | (simp; omega))))))).mono ?_; rintro e wa1 ⟨rfl, hb⟩
      have h9' := Lib.hid (below_step (w := wc) hb (by have h9 := h9.out; repeat (first | (with_reducible assumption) | (with_reducible exact Below.refl _ _) | (with_reducible refine Below.drew ?_) | (with_reducible refine below_drewN' ?_ _) | (with_reducible refine below_al ?_) | ((with_reducible refine below_set ?_ ?_); rotate_left; focus (first | (simp; done) | (simp; omega)))))); clear h9; have h9 := h9'; clear h9' hb
      clear dc0 dc1 dc2 dc3 dc4 dc5 dc6 dc7 dc8
      have dd0 := below_some h9.out _ _ _ Fd0.out
      have dd1 := below_some h9.out _ _ _ Fd1.out
      have dd2 := below_some h9.out _ _ _ Fd2.out
      have dd3 := below_some h9.out _ _ _ Fd3.out
      have dd4 := below_some h9.out _ _ _ Fd4.out
      have dd5 := below_some h9.out _ _ _ Fd5.out
      have dd6 := below_some h9.out _ _ _ Fd6.out
      have dd7 := below_some h9.out _ _ _ Fd7.out
      have dd8 := below_some h9.out _ _ _ Fd8.out
      (try go_simp); (repeat (first | ((with_reducible refine wp_region_app ?_); simp only [List.cons_append, List.nil_append]) | go_values | go_skip | go_guarded | go_step | go_upon))
      refine (mayVL_c ((CalP.mk o0 o1 o2 o3 o4 o5 o6 (some ⟨b, o, none⟩) cR rs D cD ds).withR (some ⟨g, 0, none⟩) cap (swp rs x y)) rs.length LD _ MD _ (IL.out.below (by have h9 := h9.out; repeat (first | (with_reducible assumption) | (with_reducible exact Below.refl _ _) | (with_reducible refine Below.drew ?_) | (with_reducible refine below_drewN' ?_ _) | (with_reducible refine below_al ?_) | ((with_reducible refine below_set ?_ ?_); rotate_left; focus (first | (simp; done) | (simp; omega)))))) (IN.out.below (by have h9 := h9.out; repeat (first | (with_reducible assumption) | (with_reducible exact Below.refl _ _) | (with_reducible refine Below.drew ?_) | (with_reducible refine below_drewN' ?_ _) | (with_reducible refine below_al ?_) | ((with_reducible refine below_set ?_ ?_); rotate_left; focus (first | (simp; done) | (simp; omega)))))) (ID.out.below (by have h9 := h9.out; repeat (first | (with_reducible assumption) | (with_reducible exact Below.refl _ _) | (with_reducible refine Below.drew ?_) | (with_reducible refine below_drewN' ?_ _) | (with_reducible refine below_al ?_) | ((with_reducible refine below_set ?_ ?_); rotate_left; focus (first | (simp; done) | (simp; omega))))))).mono ?_; rintro e wa2 ⟨rfl, hb⟩
      have h9' := Lib.hid (below_step (w := wc) hb (by have h9 := h9.out; repeat (first | (with_reducible assumption) | (with_reducible exact Below.refl _ _) | (with_reducible refine Below.drew ?_) | (with_reducible refine below_drewN' ?_ _) | (with_reducible refine below_al ?_) | ((with_reducible refine below_set ?_ ?_); rotate_left; focus (first | (simp; done) | (simp; omega)))))); clear h9; have h9 := h9'; clear h9' hb
      clear dd0 dd1 dd2 dd3 dd4 dd5 dd6 dd7 dd8
      have de0 := below_some h9.out _ _ _ Fe0.out
      have de1 := below_some h9.out _ _ _ Fe1.out
      have de2 := below_some h9.out _ _ _ Fe2.out
      have de3 := below_some h9.out _ _ _ Fe3.out
      have de4 := below_some h9.out _ _ _ Fe4.out
      have de5 := below_some h9.out _ _ _ Fe5.out
      have de6 := below_some h9.out _ _ _ Fe6.out
      have de7 := below_some h9.out _ _ _ Fe7.out
      have de8 := below_some h9.out _ _ _ Fe8.out
      (try go_simp); (repeat (first | ((with_reducible refine wp_region_app ?_); simp only [List.cons_append, List.nil_append]) | go_values | go_skip | go_guarded | go_step | go_upon))
      refine (mayV_c ((CalP.mk o0 o1 o2 o3 o4 o5 o6 (some ⟨b, o, none⟩) cR rs D cD ds).withR A cR' rs') _ ME _ (IL.out.below (by have h9 := h9.out; repeat (first | (with_reducible assumption) | (with_reducible exact Below.refl _ _) | (with_reducible refine Below.drew ?_) | (with_reducible refine below_drewN' ?_ _) | (with_reducible refine below_al ?_) | ((with_reducible refine below_set ?_ ?_); rotate_left; focus (first | (simp; done) | (simp; omega)))))) (IN.out.below (by have h9 := h9.out; repeat (first | (with_reducible assumption) | (with_reducible exact Below.refl _ _) | (with_reducible refine Below.drew ?_) | (with_reducible refine below_drewN' ?_ _) | (with_reducible refine below_al ?_) | ((with_reducible refine below_set ?_ ?_); rotate_left; focus (first | (simp; done) | (simp; omega)))))) (IE.out.below (by have h9 := h9.out; repeat (first | (with_reducible assumption) | (with_reducible exact Below.refl _ _) | (with_reducible refine Below.drew ?_) | (with_reducible refine below_drewN' ?_ _) | (with_reducible refine below_al ?_) | ((with_reducible refine below_set ?_ ?_); rotate_left; focus (first | (simp; done) | (simp; omega))))))).mono ?_; rintro e wa3 ⟨rfl, hb⟩
      have h9' := Lib.hid (below_step (w := wc) hb (by have h9 := h9.out; repeat (first | (with_reducible assumption) | (with_reducible exact Below.refl _ _) | (with_reducible refine Below.drew ?_) | (with_reducible refine below_drewN' ?_ _) | (with_reducible refine below_al ?_) | ((with_reducible refine below_set ?_ ?_); rotate_left; focus (first | (simp; done) | (simp; omega)))))); clear h9; have h9 := h9'; clear h9' hb
      clear de0 de1 de2 de3 de4 de5 de6 de7 de8
      have dd0 := below_some h9.out _ _ _ Fd0.out
      have dd1 := below_some h9.out _ _ _ Fd1.out
      have dd2 := below_some h9.out _ _ _ Fd2.out
      have dd3 := below_some h9.out _ _ _ Fd3.out
      have dd4 := below_some h9.out _ _ _ Fd4.out
      have dd5 := below_some h9.out _ _ _ Fd5.out
      have dd6 := below_some h9.out _ _ _ Fd6.out
      have dd7 := below_some h9.out _ _ _ Fd7.out
      have dd8 := below_some h9.out _ _ _ Fd8.out
      (try go_simp); (repeat (first | ((with_reducible refine wp_region_app ?_); simp only [List.cons_append, List.nil_append]) | go_values | go_skip | go_guarded | go_step | go_upon))
      refine (isVL_c ((CalP.mk o0 o1 o2 o3 o4 o5 o6 (some ⟨b, o, none⟩) cR rs D cD ds).withR (some ⟨g, 0, none⟩) cap (swp rs x y)) rs.length LD n _ ED KD.out _ (IL.out.below (by have h9 := h9.out; repeat (first | (with_reducible assumption) | (with_reducible exact Below.refl _ _) | (with_reducible refine Below.drew ?_) | (with_reducible refine below_drewN' ?_ _) | (with_reducible refine below_al ?_) | ((with_reducible refine below_set ?_ ?_); rotate_left; focus (first | (simp; done) | (simp; omega)))))) (ID.out.below (by have h9 := h9.out; repeat (first | (with_reducible assumption) | (with_reducible exact Below.refl _ _) | (with_reducible refine Below.drew ?_) | (with_reducible refine below_drewN' ?_ _) | (with_reducible refine below_al ?_) | ((with_reducible refine below_set ?_ ?_); rotate_left; focus (first | (simp; done) | (simp; omega))))))).mono ?_; rintro e wa4 ⟨rfl, hb⟩
      have h9' := Lib.hid (below_step (w := wc) hb (by have h9 := h9.out; repeat (first | (with_reducible assumption) | (with_reducible exact Below.refl _ _) | (with_reducible refine Below.drew ?_) | (with_reducible refine below_drewN' ?_ _) | (with_reducible refine below_al ?_) | ((with_reducible refine below_set ?_ ?_); rotate_left; focus (first | (simp; done) | (simp; omega)))))); clear h9; have h9 := h9'; clear h9' hb
      clear dd0 dd1 dd2 dd3 dd4 dd5 dd6 dd7 dd8
      have de0 := below_some h9.out _ _ _ Fe0.out
      have de1 := below_some h9.out _ _ _ Fe1.out
      have de2 := below_some h9.out _ _ _ Fe2.out
      have de3 := below_some h9.out _ _ _ Fe3.out
      have de4 := below_some h9.out _ _ _ Fe4.out
      have de5 := below_some h9.out _ _ _ Fe5.out
      have de6 := below_some h9.out _ _ _ Fe6.out
      have de7 := below_some h9.out _ _ _ Fe7.out
      have de8 := below_some h9.out _ _ _ Fe8.out
      (try go_simp); (repeat (first | ((with_reducible refine wp_region_app ?_); simp only [List.cons_append, List.nil_append]) | go_values | go_skip | go_guarded | go_step | go_upon))
      refine (isV_c ((CalP.mk o0 o1 o2 o3 o4 o5 o6 (some ⟨b, o, none⟩) cR rs D cD ds).withR A cR' rs') n _ EE KE.out _ (IL.out.below (by have h9 := h9.out; repeat (first | (with_reducible assumption) | (with_reducible exact Below.refl _ _) | (with_reducible refine Below.drew ?_) | (with_reducible refine below_drewN' ?_ _) | (with_reducible refine below_al ?_) | ((with_reducible refine below_set ?_ ?_); rotate_left; focus (first | (simp; done) | (simp; omega)))))) (IE.out.below (by have h9 := h9.out; repeat (first | (with_reducible assumption) | (with_reducible exact Below.refl _ _) | (with_reducible refine Below.drew ?_) | (with_reducible refine below_drewN' ?_ _) | (with_reducible refine below_al ?_) | ((with_reducible refine below_set ?_ ?_); rotate_left; focus (first | (simp; done) | (simp; omega))))))).mono ?_; rintro e wa5 ⟨rfl, hb⟩
      have h9' := Lib.hid (below_step (w := wc) hb (by have h9 := h9.out; repeat (first | (with_reducible assumption) | (with_reducible exact Below.refl _ _) | (with_reducible refine Below.drew ?_) | (with_reducible refine below_drewN' ?_ _) | (with_reducible refine below_al ?_) | ((with_reducible refine below_set ?_ ?_); rotate_left; focus (first | (simp; done) | (simp; omega)))))); clear h9; have h9 := h9'; clear h9' hb
      clear de0 de1 de2 de3 de4 de5 de6 de7 de8
      (try go_simp); (repeat (first | ((with_reducible refine wp_region_app ?_); simp only [List.cons_append, List.nil_append]) | go_values | go_skip | go_guarded | go_step | go_upon))
      go_ret
      exact ⟨rfl, hB8.trans (h9.out.mono hB8.size)⟩
theorem calOrder_walk (c : CalP) (i j n : Int) (hi : 0 ≤ i ∧ i ≤ 255) (hj : 0 ≤ j ∧ j ≤ 255) (w : World) (hL : Laid w) (hN : AllOff w) (hc : CalIn w c) : Calls Tryd.prog 15 #[.agg #[.bool c.o0, .bool c.o1, .bool c.o2, .bool c.o3, .bool c.o4, .bool c.o5, .bool c.o6, .slice c.A c.rs.length c.cR, .slice c.D c.ds.length c.cD, .int .u8 i, .int .u8 j, .int .i64 n]] w fun e w' => e = .returned (.bool true) ∧ Below w.heap.size w w' := by
  obtain ⟨i1, i2⟩ := hi
  obtain ⟨j1, j2⟩ := hj
  cases hf : c.few
  · exact calOrder_few c i j n hf w hL hN hc
  cases hm : c.may
  · exact calOrder_may c i j n hf hm w hL hN hc
  by_cases h0 : c.rs.length = 0
  · exact calOrder_nil c i j n hf hm (decide_eq_true (by omega)) w hL hN hc
  rcases hc.r with h | ⟨b, o, h1, h2, h3⟩
  · exact absurd (by rw [h]; rfl) h0
  obtain ⟨o0, o1, o2, o3, o4, o5, o6, A, cR, rs, D, cD, ds⟩ := c
  have h1' : A = some ⟨b, o, none⟩ := h1
  subst h1'
  have hl : ¬ rs.length = 0 := h0
  have fl : rs.length ≤ 12 ∧ ds.length ≤ 60 := few_len hf
  have z1 : IntKind.i64.wrap i = i := IntWalk.i64_in _ (by omega)
  have z2 : IntKind.i64.wrap j = j := IntWalk.i64_in _ (by omega)
  have hmod : ∀ q : Int, 0 ≤ q → ∃ x : Nat, q.tmod (rs.length : Int) = (x : Int) ∧ x < rs.length := by
    intro q hq
    have e1 := Int.emod_nonneg q (show (rs.length : Int) ≠ 0 by omega)
    have e2 := Int.emod_lt_of_pos q (show (0 : Int) < (rs.length : Int) by omega)
    exact ⟨(q % (rs.length : Int)).toNat, by rw [Int.tmod_eq_emod_of_nonneg hq]; omega, by omega⟩
  obtain ⟨x, hx, hxl⟩ := hmod i i1
  obtain ⟨y, hy, hyl⟩ := hmod j j1
  exact calOrder_in o0 o1 o2 o3 o4 o5 o6 b o cR rs D cD ds i j n hf hm x y hxl hyl z1 z2 hx hy (by omega) (decide_eq_false (by omega)) (by omega) _ (Lib.hid rfl) w hL hN hc
end Go.Proofs.YtlilffoflkkbdaaDoor
