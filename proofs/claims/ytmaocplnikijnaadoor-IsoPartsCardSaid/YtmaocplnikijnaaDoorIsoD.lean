/- The contracts of days as texts, shown: the program's. Conditions: the table of months' lengths lies as the program's text lays it. -/
import Derived.Test.YtmaocplnikijnaaDoorIsoC
import Derived.Test.YtmaocplnikijnaaDoorJoin
import Derived.Deep.RegionHeld3
import Derived.Deep.RegionWith
namespace Go.Proofs.YtmaocplnikijnaaDoor
open Go.RowKit
set_option linter.unusedVariables false


theorem digits_t (n k : Int) (h : 0 ≤ n) (h' : n ≤ 9999) (hk : k = 4 ∨ k = 2) (w : World) : Calls Tryd.prog 48 #[.int .i64 n, .int .i64 k] w fun e w' => e = .returned (.string ⟨(Iso.digs k.toNat n).toArray⟩) ∧ Below w.heap.size w w' := by
  rcases hk with rfl | rfl
  · exact digits4_t n h h' w
  · exact digits2_t n h h' w
theorem join3_t (b : Nat) (x y z : List UInt8) (w : World) (h0 : w.cell? ⟨b, 0, none⟩ = some (.string ⟨x.toArray⟩)) (h1 : w.cell? ⟨b, 1, none⟩ = some (.string ⟨y.toArray⟩)) (h2 : w.cell? ⟨b, 2, none⟩ = some (.string ⟨z.toArray⟩)) (hl : x.length + y.length + z.length ≤ 100) :
    Calls Tryd.prog 47 #[.slice (some ⟨b, 0, none⟩) 3 3, .string ⟨#[45]⟩] w fun e w' => e = .returned (.string ⟨(x ++ 45 :: (y ++ 45 :: z)).toArray⟩) ∧ Below w.heap.size w w' := by
  have hj : Lib.join ([⟨x.toArray⟩, ⟨y.toArray⟩, ⟨z.toArray⟩].map fun s : ByteArray => s.data.toList) [45] = x ++ 45 :: (y ++ 45 :: z) := by simp [Lib.join]
  have := Tryd.strings_Join b 0 3 [⟨x.toArray⟩, ⟨y.toArray⟩, ⟨z.toArray⟩] ⟨#[45]⟩ w (by
    intro j s hs
    match j, hs with
    | 0, hs => simp at hs; subst hs; simpa using h0
    | 1, hs => simp at hs; subst hs; simpa using h1
    | 2, hs => simp at hs; subst hs; simpa using h2) (World.block_lt_of_cell? w _ h0) (by simp) (by simp) (by
      show (Lib.join _ [45]).length ≤ _
      rw [hj]; simp; omega)
  refine this.mono fun e w' ⟨he, hb⟩ => ⟨?_, hb⟩
  rw [he]
  show Ending.returned (Value.string ⟨(Lib.join _ [45]).toArray⟩) = _
  rw [hj]
set_option maxHeartbeats 2000000 in
theorem show_in (n : Int) (h1 : 1 ≤ n) (h2 : n ≤ 3652059) (w : World) (hL : Laid w) : Calls Tryd.prog 28 #[.int .i64 n] w fun e w' => e = .returned (.tuple #[.string ⟨(Iso.tx n).toArray⟩, .int .i64 0]) ∧ Below w.heap.size w w' := by
  have B := Iso.bd_of n h1 h2
  have y1 := B.y1; have y2 := B.y2; have m1 := B.m1; have m2 := B.m2; have d1 := B.d1; have d2 := B.d2
  clear B
  have hB : Below w.heap.size w w := Below.refl _ _
  go_enter Tryd.func28, Tryd.ntmps28
  go_wp2_with fail
  refine (of_yes _ _ (hL.below (by repeat (first | assumption | exact Below.refl _ _ | (with_reducible refine Below.drew ?_) | (with_reducible refine below_drewN' ?_ _) | (with_reducible refine below_al ?_) | ((with_reducible refine below_set ?_ ?_); rotate_left; focus (first | (simp; done) | (simp; omega)))))) (by assumption) (by assumption)).mono ?_; rintro e w1 ⟨rfl, hb1⟩
  have hz1 := hb1.size; (try simp at hz1); obtain ⟨hc1, hf1⟩ := bcell hb1; have hB1 := below_step (w := w) hb1 (by repeat (first | assumption | exact Below.refl _ _ | (with_reducible refine Below.drew ?_) | (with_reducible refine below_drewN' ?_ _) | (with_reducible refine below_al ?_) | ((with_reducible refine below_set ?_ ?_); rotate_left; focus (first | (simp; done) | (simp; omega)))))
  have le_w_w1 : w.heap.size ≤ w1.heap.size := by omega
  try have lt_w_w1 : w.heap.size < w1.heap.size := by omega
  go_wp2_with fail
  have t0 : ∀ w' : World, w' = (w1.alloc (Obj.cells #[.int .i64 (Cal.yOf n), .int .i64 (Cal.mOf n), .int .i64 (Cal.dOf n)] 29)).drew → (Below w.heap.size w w' ∧ w1.heap.size < w'.heap.size ∧ w'.cell? ⟨w1.heap.size, 0, none⟩ = some (.int .i64 (Cal.yOf n)) ∧ w'.cell? ⟨w1.heap.size, 1, none⟩ = some (.int .i64 (Cal.mOf n)) ∧ w'.cell? ⟨w1.heap.size, 2, none⟩ = some (.int .i64 (Cal.dOf n))) := by
    intro w' hw'; subst hw'; clear hb1
    refine ⟨?_, ?_, ?_, ?_, ?_⟩
    · repeat (first | assumption | exact Below.refl _ _ | (with_reducible refine Below.drew ?_) | (with_reducible refine below_drewN' ?_ _) | (with_reducible refine below_al ?_) | ((with_reducible refine below_set ?_ ?_); rotate_left; focus (first | (simp; done) | (simp; omega))))
    · (simp [go_sem]; done)
    all_goals (simp [*, go_sem]; done)
  go_region_held3 (fun w' => Below w.heap.size w w' ∧ w1.heap.size < w'.heap.size ∧ w'.cell? ⟨w1.heap.size, 0, none⟩ = some (.int .i64 (Cal.yOf n)) ∧ w'.cell? ⟨w1.heap.size, 1, none⟩ = some (.int .i64 (Cal.mOf n)) ∧ w'.cell? ⟨w1.heap.size, 2, none⟩ = some (.int .i64 (Cal.dOf n)))
    (first | exact t0 _ rfl | (go_split_ands; obtain ⟨hc', hf'⟩ := bcell hb; have hz' := hb.size; refine ⟨below_step hb (by assumption), by omega, ?_, ?_, ?_⟩; all_goals exact (hc' _ _ (by omega)).trans (by assumption)) | (go_split_ands; refine ⟨below_al (by assumption), (by simp; omega), ?_, ?_, ?_⟩; all_goals exact (World.cell?_alloc_lt _ _ _ (by assumption)).trans (by assumption)) | go_keep)
    (first | (go_at_call 48; refine (digits_t _ _ (by assumption) (by omega) (by decide) _).mono ?_; rintro e wn ⟨rfl, hb⟩) | (go_at_call 47; refine (join3_t _ (Iso.digs 4 (Cal.yOf n)) (Iso.digs 2 (Cal.mOf n)) (Iso.digs 2 (Cal.dOf n)) _ (by simp [go_sem]) (by simp [go_sem]) (by simp [go_sem]) (by simp only [Iso.digs_length]; decide)).mono ?_; rintro e wn ⟨rfl, hb⟩))
  clear t0
  rename World => w2
  go_split_ands
  go_wp2_with fail
  go_ret2
  exact ⟨rfl, by repeat (first | assumption | exact Below.refl _ _ | (with_reducible refine Below.drew ?_) | (with_reducible refine below_drewN' ?_ _) | (with_reducible refine below_al ?_) | ((with_reducible refine below_set ?_ ?_); rotate_left; focus (first | (simp; done) | (simp; omega))))⟩
def txs (n : Int) : ByteArray := if 1 ≤ n ∧ n ≤ 3652059 then ⟨(Iso.tx n).toArray⟩ else ⟨#[]⟩
theorem show_c (n : Int) (w : World) (hL : Laid w) : Calls Tryd.prog 28 #[.int .i64 n] w fun e w' => e = .returned (.tuple #[.string (txs n), .int .i64 (ofE n)]) ∧ Below w.heap.size w w' := by
  by_cases h : 1 ≤ n ∧ n ≤ 3652059
  · rw [(of_in h.1 h.2).2.2.2, txs, if_pos h]; exact show_in n h.1 h.2 w hL
  · have h' : n < 1 ∨ 3652059 < n := by omega
    rw [(of_out h').2.2.2, txs, if_neg h]
    have H := Lib.hid h'; clear h h'
    have hB : Below w.heap.size w w := Below.refl _ _
    go_enter Tryd.func28, Tryd.ntmps28
    go_wp2_with fail
    refine (of_no _ _ H.out).mono ?_; rintro e w1 ⟨rfl, hb1⟩
    have hz1 := hb1.size; (try simp at hz1); obtain ⟨hc1, hf1⟩ := bcell hb1; have hB1 := below_step (w := w) hb1 (by repeat (first | assumption | exact Below.refl _ _ | (with_reducible refine Below.drew ?_) | (with_reducible refine below_drewN' ?_ _) | (with_reducible refine below_al ?_) | ((with_reducible refine below_set ?_ ?_); rotate_left; focus (first | (simp; done) | (simp; omega)))))
    have le_w_w1 : w.heap.size ≤ w1.heap.size := by omega
    try have lt_w_w1 : w.heap.size < w1.heap.size := by omega
    go_wp2_with fail
    go_ret2
    exact ⟨rfl, by repeat (first | assumption | exact Below.refl _ _ | (with_reducible refine Below.drew ?_) | (with_reducible refine below_drewN' ?_ _) | (with_reducible refine below_al ?_) | ((with_reducible refine below_set ?_ ?_); rotate_left; focus (first | (simp; done) | (simp; omega))))⟩
theorem rdigits_t (n k : Int) (h : 0 ≤ n) (h' : n ≤ 9999) (hk : k = 4 ∨ k = 2) (w : World) : Calls Tryd.prog 49 #[.int .i64 n, .int .i64 k] w fun e w' => e = .returned (.string ⟨(Iso.digs k.toNat n).toArray⟩) ∧ w' = w := by
  rcases hk with rfl | rfl
  · exact (rdigits4_t n h h' w).mono fun _ _ h => ⟨h.1, h.2.symm⟩
  · exact (rdigits2_t n h h' w).mono fun _ _ h => ⟨h.1, h.2.symm⟩
theorem digs_size (k : Nat) (n : Int) : (⟨(Iso.digs k n).toArray⟩ : ByteArray).size = k := by show (Iso.digs k n).toArray.size = k; simp [Iso.digs_length]
theorem app_text (y m d : Int) : (((((⟨(Iso.digs 4 y).toArray⟩ : ByteArray) ++ ⟨#[45]⟩) ++ ⟨(Iso.digs 2 m).toArray⟩) ++ ⟨#[45]⟩) ++ ⟨(Iso.digs 2 d).toArray⟩) = ⟨(Iso.text y m d).toArray⟩ := by
  simp only [str_app]; rfl
set_option maxHeartbeats 2000000 in
theorem rshow_in (n : Int) (h1 : 1 ≤ n) (h2 : n ≤ 3652059) (w : World) : Calls Tryd.prog 29 #[.int .i64 n] w fun e w' => e = .returned (.tuple #[.string ⟨(Iso.tx n).toArray⟩, .int .i64 0]) ∧ Below w.heap.size w w' := by
  have B := Iso.bd_of n h1 h2
  have y1 := B.y1; have y2 := B.y2; have m1 := B.m1; have m2 := B.m2; have d1 := B.d1; have d2 := B.d2
  clear B
  have hsz := digs_size
  have hB : Below w.heap.size w w := Below.refl _ _
  go_enter Tryd.func29, Tryd.ntmps29
  go_wp2_with fail
  refine (rof_yes _ _ (by assumption) (by assumption)).mono ?_; rintro e w1 ⟨rfl, hb1⟩
  have hz1 := hb1.size; (try simp at hz1); obtain ⟨hc1, hf1⟩ := bcell hb1; have hB1 := below_step (w := w) hb1 (by repeat (first | assumption | exact Below.refl _ _ | (with_reducible refine Below.drew ?_) | (with_reducible refine below_drewN' ?_ _) | (with_reducible refine below_al ?_) | ((with_reducible refine below_set ?_ ?_); rotate_left; focus (first | (simp; done) | (simp; omega)))))
  have le_w_w1 : w.heap.size ≤ w1.heap.size := by omega
  try have lt_w_w1 : w.heap.size < w1.heap.size := by omega
  go_wp2_with fail
  go_quiet ((go_at_call 49; exact Calls.quiet_of_same (rdigits_t _ _ (by assumption) (by omega) (by decide) _)))
  go_wp2_with fail
  go_ret2
  exact ⟨congrArg (fun b => Ending.returned (.tuple #[.string b, .int .i64 0])) (app_text _ _ _), by repeat (first | assumption | exact Below.refl _ _ | (with_reducible refine Below.drew ?_) | (with_reducible refine below_drewN' ?_ _) | (with_reducible refine below_al ?_) | ((with_reducible refine below_set ?_ ?_); rotate_left; focus (first | (simp; done) | (simp; omega))))⟩
theorem rshow_c (n : Int) (w : World) : Calls Tryd.prog 29 #[.int .i64 n] w fun e w' => e = .returned (.tuple #[.string (txs n), .int .i64 (ofE n)]) ∧ Below w.heap.size w w' := by
  by_cases h : 1 ≤ n ∧ n ≤ 3652059
  · rw [(of_in h.1 h.2).2.2.2, txs, if_pos h]; exact rshow_in n h.1 h.2 w
  · have h' : n < 1 ∨ 3652059 < n := by omega
    rw [(of_out h').2.2.2, txs, if_neg h]
    have H := Lib.hid h'; clear h h'
    have hB : Below w.heap.size w w := Below.refl _ _
    go_enter Tryd.func29, Tryd.ntmps29
    go_wp2_with fail
    refine (rof_no _ _ H.out).mono ?_; rintro e w1 ⟨rfl, hb1⟩
    have hz1 := hb1.size; (try simp at hz1); obtain ⟨hc1, hf1⟩ := bcell hb1; have hB1 := below_step (w := w) hb1 (by repeat (first | assumption | exact Below.refl _ _ | (with_reducible refine Below.drew ?_) | (with_reducible refine below_drewN' ?_ _) | (with_reducible refine below_al ?_) | ((with_reducible refine below_set ?_ ?_); rotate_left; focus (first | (simp; done) | (simp; omega)))))
    have le_w_w1 : w.heap.size ≤ w1.heap.size := by omega
    try have lt_w_w1 : w.heap.size < w1.heap.size := by omega
    go_wp2_with fail
    go_ret2
    exact ⟨rfl, by repeat (first | assumption | exact Below.refl _ _ | (with_reducible refine Below.drew ?_) | (with_reducible refine below_drewN' ?_ _) | (with_reducible refine below_al ?_) | ((with_reducible refine below_set ?_ ?_); rotate_left; focus (first | (simp; done) | (simp; omega))))⟩
end Go.Proofs.YtmaocplnikijnaaDoor
