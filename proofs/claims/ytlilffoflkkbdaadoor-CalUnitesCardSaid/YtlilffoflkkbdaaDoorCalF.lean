/- The contract of which calendars may be, the program's. Conditions: the tables of months' lengths and of the week all of whose days are off lie as the program's text lays them. -/
import Derived.Test.YtlilffoflkkbdaaDoorCalE
import Derived.Test.YtlilffoflkkbdaaDoorLaid4
import Derived.Test.YtlilffoflkkbdaaDoorRulA
import Derived.Test.YtlilffoflkkbdaaDoorWeekEq
namespace Go.Proofs.YtlilffoflkkbdaaDoor
open Go.RowKit
set_option linter.unusedVariables false
theorem mayFnR_c (r : R8) (w : World) (hL : Laid w) : Calls Tryd.prog 54 #[.agg #[.int .i64 r.kd, .int .i64 r.mo, .int .i64 r.da, .int .i64 r.kk, .int .i64 r.off, .int .i64 r.sh, .int .i64 r.fr, .int .i64 r.to]] w fun e w' => e = .returned (.bool (!r.may)) ∧ Below w.heap.size w w' := by
  have hB : Below w.heap.size w w := Below.refl _ _
  go_enter Tryd.func54, Tryd.ntmps54
  go_wp2_with fail
  refine (ruleMay_c _ _ _ _ _ _ _ _ _ (hL.below (by repeat (first | assumption | exact Below.refl _ _ | (with_reducible refine Below.drew ?_) | (with_reducible refine below_drewN' ?_ _) | (with_reducible refine below_al ?_) | ((with_reducible refine below_set ?_ ?_); rotate_left; focus (first | (simp; done) | (simp; omega))))))).mono ?_; rintro e w1 ⟨rfl, hb1⟩
  have hz1 := hb1.size; (try simp at hz1); obtain ⟨hc1, hf1⟩ := bcell hb1; have hB1 := below_step (w := w) hb1 (by repeat (first | assumption | exact Below.refl _ _ | (with_reducible refine Below.drew ?_) | (with_reducible refine below_drewN' ?_ _) | (with_reducible refine below_al ?_) | ((with_reducible refine below_set ?_ ?_); rotate_left; focus (first | (simp; done) | (simp; omega)))))
  have le_w_w1 : w.heap.size ≤ w1.heap.size := by omega
  try have lt_w_w1 : w.heap.size < w1.heap.size := by omega
  go_wp2_with fail
  go_ret
  exact ⟨rfl, by repeat (first | assumption | exact Below.refl _ _ | (with_reducible refine Below.drew ?_) | (with_reducible refine below_drewN' ?_ _) | (with_reducible refine below_al ?_) | ((with_reducible refine below_set ?_ ?_); rotate_left; focus (first | (simp; done) | (simp; omega))))⟩
theorem mayFnD_c (n : Int) (w : World) (hL : Laid w) : Calls Tryd.prog 57 #[.int .i64 n] w fun e w' => e = .returned (.bool (!dayB n)) ∧ Below w.heap.size w w' := by
  have hB : Below w.heap.size w w := Below.refl _ _
  go_enter Tryd.func57, Tryd.ntmps57
  go_wp2_with fail
  refine (cday_c _ _ (hL.below (by repeat (first | assumption | exact Below.refl _ _ | (with_reducible refine Below.drew ?_) | (with_reducible refine below_drewN' ?_ _) | (with_reducible refine below_al ?_) | ((with_reducible refine below_set ?_ ?_); rotate_left; focus (first | (simp; done) | (simp; omega))))))).mono ?_; rintro e w1 ⟨rfl, hb1⟩
  have hz1 := hb1.size; (try simp at hz1); obtain ⟨hc1, hf1⟩ := bcell hb1; have hB1 := below_step (w := w) hb1 (by repeat (first | assumption | exact Below.refl _ _ | (with_reducible refine Below.drew ?_) | (with_reducible refine below_drewN' ?_ _) | (with_reducible refine below_al ?_) | ((with_reducible refine below_set ?_ ?_); rotate_left; focus (first | (simp; done) | (simp; omega)))))
  have le_w_w1 : w.heap.size ≤ w1.heap.size := by omega
  try have lt_w_w1 : w.heap.size < w1.heap.size := by omega
  go_wp2_with fail
  go_ret
  exact ⟨rfl, by repeat (first | assumption | exact Below.refl _ _ | (with_reducible refine Below.drew ?_) | (with_reducible refine below_drewN' ?_ _) | (with_reducible refine below_al ?_) | ((with_reducible refine below_set ?_ ?_); rotate_left; focus (first | (simp; done) | (simp; omega))))⟩
theorem notR_c (A : Option Addr) (cR : Nat) (rs : List R8) (w : World) (hL : Laid w) (hr : RIn w A rs) (hz : rs.length ≤ 1000000) :
    Calls Tryd.prog 53 #[.slice A rs.length cR, .func (.func 54) #[] #[]] w fun e w' => e = .returned (.bool (rs.any (fun r => !r.may))) ∧ Below w.heap.size w w' := by
  rcases hr with h | ⟨b, o, rfl, hb, hc⟩
  · subst h
    exact anyR_nil (fun r => !r.may) A cR _ w
  · have eg : ∀ args w, (callFunc 54 args).run Tryd.prog w = .ok (.enter 54 args) w := enters_of Tryd.func54 (by kernel_rfl) rfl
    refine anyR_c (fun r => !r.may) 54 #[] eg b o cR rs w (fun W x hx hW => ?_) (by omega) hb hc
    exact (mayFnR_c x W (hL.below hW)).mono fun e w' ⟨h1, h2⟩ => ⟨h1, hW.trans (h2.mono hW.size)⟩
theorem notD_c (D : Option Addr) (cD : Nat) (ds : List Int) (w : World) (hL : Laid w) (hd : DIn w D ds) (hz : ds.length ≤ 1000000) :
    Calls Tryd.prog 56 #[.slice D ds.length cD, .func (.func 57) #[] #[]] w fun e w' => e = .returned (.bool (ds.any (fun n => !dayB n))) ∧ Below w.heap.size w w' := by
  rcases hd with h | ⟨b, o, rfl, hb, hc⟩
  · subst h
    exact anyD_nil (fun n => !dayB n) D cD _ w
  · have eg : ∀ args w, (callFunc 57 args).run Tryd.prog w = .ok (.enter 57 args) w := enters_of Tryd.func57 (by kernel_rfl) rfl
    refine anyD_c (fun n => !dayB n) 57 #[] eg b o cD ds w (fun W x hx hW => ?_) (by omega) hb (fun j hj => ?_)
    · exact (mayFnD_c x W (hL.below hW)).mono fun e w' ⟨h1, h2⟩ => ⟨h1, hW.trans (h2.mono hW.size)⟩
    · rw [hc j hj]
      congr 2
      rw [List.getD_eq_getElem?_getD, List.getElem?_eq_getElem hj, getElem!_pos ds j hj]; rfl
/-! Do days rise? -/
theorem ris_no {l : List Int} {k : Nat} (h0 : 0 < k) (hk : k < l.length) (h : l.getD k 0 ≤ l.getD (k - 1) 0) : risB l = false := by
  cases e : risB l
  · rfl
  · have := (ris_iff l).1 e k h0 hk; omega
set_option maxHeartbeats 4000000 in
theorem rising_at (db do_ : Nat) (cD : Nat) (ds : List Int) (V : Bool) (hV : Hid (risB ds = V)) (w : World) (hz : ds.length ≤ 1000000) (hdb : db < w.heap.size) (hdc : ∀ j, j < ds.length → w.cell? ⟨db, do_ + j, none⟩ = some (.int .i64 (ds.getD j 0))) :
    Calls Tryd.prog 59 #[.slice (some ⟨db, do_, none⟩) ds.length cD] w fun e w' => e = .returned (.bool V) ∧ Below w.heap.size w w' := by
  go_enter Tryd.func59, Tryd.ntmps59
  go_wp2_with fail
  go_loopw [6] (fun i w3 => ∃ k : Nat, k ≤ ds.length ∧ i = .int .i64 k ∧ Hid (∀ j, 0 < j → j < k → ds.getD (j - 1) 0 < ds.getD j 0) ∧ ∃ q : Nat, w3 = w.drewN q) (fun i _ => ds.length - (intOf i).toNat)
  case atStart => exact ⟨0, Nat.zero_le _, rfl, fun j _ hj => absurd hj (Nat.not_lt_zero _), 0, rfl⟩
  case round =>
    obtain ⟨k, hkk, rfl, A2, q, rfl⟩ := hrel
    by_cases hlt : k < ds.length
    · have hltz : (k : Int) < (ds.length : Int) := by omega
      have g := hdc k hlt
      by_cases h0 : k = 0
      · subst h0
        have g : w.cell? ⟨db, do_, none⟩ = _ := g
        clear hdc
        generalize hX : ds.getD 0 0 = x at *; have HX := Lib.hid hX; clear hX
        go_wp2_with fail
        go_quiet (fail)
        go_wp2_with fail
        go_roundw
        case rel => exact ⟨1, by omega, rfl, fun j h1 h2 => absurd h2 (by omega), _, rfl⟩
        case measure => simp [intOf]; omega
      · have g2 := hdc (k - 1) (by omega)
        have hk0 : decide ((0 : Int) < (k : Int)) = true := decide_eq_true (by omega)
        have hk0n : 0 < k := by omega
        have hk0b : decide (0 < k) = true := decide_eq_true (by omega)
        have hk1 : (1 : Int) ≤ (k : Int) := by omega
        have hk2 : (k : Int) - 1 < (ds.length : Int) := by omega
        have hk3 : IntKind.i64.wrap ((k : Int) - 1) = (k : Int) - 1 := IntWalk.i64_in _ (by omega)
        by_cases hle : ds.getD k 0 ≤ ds.getD (k - 1) 0
        · have HV : Hid (risB ds = false) := Lib.hid (ris_no (k := k) (by omega) hlt hle)
          clear hdc
          generalize ds.getD (k - 1) 0 = y at *
          generalize ds.getD k 0 = x at *
          have hle2 := decide_eq_true hle
          go_wp2_with fail
          go_quiet (fail)
          go_wp2_with fail
          go_ret
          exact ⟨ret_bool (by rw [← hV.out, HV.out]), by repeat (first | assumption | exact Below.refl _ _ | (with_reducible refine Below.drew ?_) | (with_reducible refine below_drewN' ?_ _) | (with_reducible refine below_al ?_) | ((with_reducible refine below_set ?_ ?_); rotate_left; focus (first | (simp; done) | (simp; omega))))⟩
        · have HL := Lib.hid hle
          have hle2 := decide_eq_false hle
          clear hle
          clear hdc
          generalize hY : ds.getD (k - 1) 0 = y at *; have HY := Lib.hid hY; clear hY
          generalize hX : ds.getD k 0 = x at *; have HX := Lib.hid hX; clear hX
          go_wp2_with fail
          go_quiet (fail)
          go_wp2_with fail
          go_roundw
          case rel =>
            refine ⟨k + 1, by omega, by go_num, (show Hid _ from fun j h1 h2 => ?_), _, rfl⟩
            by_cases e : j = k
            · subst e; have := HL.out; have := HY.out; rw [HX.out]; omega
            · exact A2.out j h1 (by omega)
          case measure => simp [intOf]; omega
    · have hltz : ¬ (k : Int) < (ds.length : Int) := by omega
      have hke : k = ds.length := by omega
      subst hke
      clear hdc
      have HV : Hid (risB ds = true) := Lib.hid ((ris_iff ds).2 A2.out)
      go_wp2_with fail
      go_ret
      exact ⟨ret_bool (by rw [← hV.out, HV.out]), drewN_below w _⟩
theorem rising_nil (D : Option Addr) (cD : Nat) (w : World) : Calls Tryd.prog 59 #[.slice D 0 cD] w fun e w' => e = .returned (.bool true) ∧ Below w.heap.size w w' := by
  go_enter Tryd.func59, Tryd.ntmps59
  go_wp2_with fail
  refine wp_loop_rounds 1 ?_
  rw [rounds_succ]
  go_wp2_with fail
  go_ret
  exact ⟨rfl, Below.refl _ _⟩
theorem rising_c (D : Option Addr) (cD : Nat) (ds : List Int) (w : World) (hd : DIn w D ds) (hz : ds.length ≤ 1000000) : Calls Tryd.prog 59 #[.slice D ds.length cD] w fun e w' => e = .returned (.bool (risB ds)) ∧ Below w.heap.size w w' := by
  rcases hd with h | ⟨b, o, rfl, hb, hc⟩
  · subst h; exact rising_nil D cD w
  · exact rising_at b o cD ds _ rfl w hz hb hc
/-! May a calendar be? -/
theorem any_not {α : Type} (p : α → Bool) (l : List α) : l.any (fun x => !p x) = !l.all p := by
  induction l with
  | nil => rfl
  | cons a l ih => rw [List.any_cons, List.all_cons, ih]; cases p a <;> simp
set_option maxRecDepth 100000 in
set_option maxHeartbeats 4000000 in
theorem cmay_off (c : CalP) (ho : Hid (c.open_ = false)) (w : World) (hL : Laid w) (hN : AllOff w) (hc : CalIn w c) : Calls Tryd.prog 35 #[.agg #[.bool c.o0, .bool c.o1, .bool c.o2, .bool c.o3, .bool c.o4, .bool c.o5, .bool c.o6, .slice c.A c.rs.length c.cR, .slice c.D c.ds.length c.cD]] w fun e w' => e = .returned (.bool false) ∧ Below w.heap.size w w' := by
  have hn0 := hN.cell 0 (by decide)
  have hn1 := hN.cell 1 (by decide)
  have hn2 := hN.cell 2 (by decide)
  have hn3 := hN.cell 3 (by decide)
  have hn4 := hN.cell 4 (by decide)
  have hn5 := hN.cell 5 (by decide)
  have hn6 := hN.cell 6 (by decide)
  have hns := hN.size
  have heq : ∀ w, (Op.equalIn 10000 92 (.agg #[.bool c.o0, .bool c.o1, .bool c.o2, .bool c.o3, .bool c.o4, .bool c.o5, .bool c.o6]) (.agg #[.bool true, .bool true, .bool true, .bool true, .bool true, .bool true, .bool true])).run Tryd.prog w = .ok (!c.open_) w := by
    intro w; rw [eq_week Tryd.underlying92]; congr 1; unfold CalP.open_; cases c.o0 <;> cases c.o1 <;> cases c.o2 <;> cases c.o3 <;> cases c.o4 <;> cases c.o5 <;> cases c.o6 <;> rfl
  rw [ho.out] at heq
  have hB : Below w.heap.size w w := Below.refl _ _
  go_enter Tryd.func35, Tryd.ntmps35

  go_wp2_with fail
  go_ret
  exact ⟨rfl, by repeat (first | assumption | exact Below.refl _ _ | (with_reducible refine Below.drew ?_) | (with_reducible refine below_drewN' ?_ _) | (with_reducible refine below_al ?_) | ((with_reducible refine below_set ?_ ?_); rotate_left; focus (first | (simp; done) | (simp; omega))))⟩
set_option maxRecDepth 100000 in
set_option maxHeartbeats 4000000 in
theorem cmay_n1 (c : CalP) (ho : Hid (c.open_ = true)) (n1 : ¬ c.rs.length ≤ 100) (w : World) (hL : Laid w) (hN : AllOff w) (hc : CalIn w c) : Calls Tryd.prog 35 #[.agg #[.bool c.o0, .bool c.o1, .bool c.o2, .bool c.o3, .bool c.o4, .bool c.o5, .bool c.o6, .slice c.A c.rs.length c.cR, .slice c.D c.ds.length c.cD]] w fun e w' => e = .returned (.bool false) ∧ Below w.heap.size w w' := by
  have hn0 := hN.cell 0 (by decide)
  have hn1 := hN.cell 1 (by decide)
  have hn2 := hN.cell 2 (by decide)
  have hn3 := hN.cell 3 (by decide)
  have hn4 := hN.cell 4 (by decide)
  have hn5 := hN.cell 5 (by decide)
  have hn6 := hN.cell 6 (by decide)
  have hns := hN.size
  have heq : ∀ w, (Op.equalIn 10000 92 (.agg #[.bool c.o0, .bool c.o1, .bool c.o2, .bool c.o3, .bool c.o4, .bool c.o5, .bool c.o6]) (.agg #[.bool true, .bool true, .bool true, .bool true, .bool true, .bool true, .bool true])).run Tryd.prog w = .ok (!c.open_) w := by
    intro w; rw [eq_week Tryd.underlying92]; congr 1; unfold CalP.open_; cases c.o0 <;> cases c.o1 <;> cases c.o2 <;> cases c.o3 <;> cases c.o4 <;> cases c.o5 <;> cases c.o6 <;> rfl
  rw [ho.out] at heq
  have n1b : decide ((100 : Int) < (c.rs.length : Int)) = true := decide_eq_true (by omega)
  have hB : Below w.heap.size w w := Below.refl _ _
  go_enter Tryd.func35, Tryd.ntmps35

  go_wp2_with fail
  go_ret
  exact ⟨rfl, by repeat (first | assumption | exact Below.refl _ _ | (with_reducible refine Below.drew ?_) | (with_reducible refine below_drewN' ?_ _) | (with_reducible refine below_al ?_) | ((with_reducible refine below_set ?_ ?_); rotate_left; focus (first | (simp; done) | (simp; omega))))⟩
set_option maxRecDepth 100000 in
set_option maxHeartbeats 4000000 in
theorem cmay_n2 (c : CalP) (ho : Hid (c.open_ = true)) (n1 : c.rs.length ≤ 100) (n2 : ¬ c.ds.length ≤ 1000) (w : World) (hL : Laid w) (hN : AllOff w) (hc : CalIn w c) : Calls Tryd.prog 35 #[.agg #[.bool c.o0, .bool c.o1, .bool c.o2, .bool c.o3, .bool c.o4, .bool c.o5, .bool c.o6, .slice c.A c.rs.length c.cR, .slice c.D c.ds.length c.cD]] w fun e w' => e = .returned (.bool false) ∧ Below w.heap.size w w' := by
  have hn0 := hN.cell 0 (by decide)
  have hn1 := hN.cell 1 (by decide)
  have hn2 := hN.cell 2 (by decide)
  have hn3 := hN.cell 3 (by decide)
  have hn4 := hN.cell 4 (by decide)
  have hn5 := hN.cell 5 (by decide)
  have hn6 := hN.cell 6 (by decide)
  have hns := hN.size
  have heq : ∀ w, (Op.equalIn 10000 92 (.agg #[.bool c.o0, .bool c.o1, .bool c.o2, .bool c.o3, .bool c.o4, .bool c.o5, .bool c.o6]) (.agg #[.bool true, .bool true, .bool true, .bool true, .bool true, .bool true, .bool true])).run Tryd.prog w = .ok (!c.open_) w := by
    intro w; rw [eq_week Tryd.underlying92]; congr 1; unfold CalP.open_; cases c.o0 <;> cases c.o1 <;> cases c.o2 <;> cases c.o3 <;> cases c.o4 <;> cases c.o5 <;> cases c.o6 <;> rfl
  rw [ho.out] at heq
  have n1z : ¬ (100 : Int) < (c.rs.length : Int) := by omega
  have n1b : decide ((100 : Int) < (c.rs.length : Int)) = false := decide_eq_false n1z
  have n2b : decide ((1000 : Int) < (c.ds.length : Int)) = true := decide_eq_true (by omega)
  have hB : Below w.heap.size w w := Below.refl _ _
  go_enter Tryd.func35, Tryd.ntmps35

  go_wp2_with fail
  go_ret
  exact ⟨rfl, by repeat (first | assumption | exact Below.refl _ _ | (with_reducible refine Below.drew ?_) | (with_reducible refine below_drewN' ?_ _) | (with_reducible refine below_al ?_) | ((with_reducible refine below_set ?_ ?_); rotate_left; focus (first | (simp; done) | (simp; omega))))⟩
set_option maxRecDepth 100000 in
set_option maxHeartbeats 4000000 in
theorem cmay_nr (c : CalP) (ho : Hid (c.open_ = true)) (n1 : c.rs.length ≤ 100) (n2 : c.ds.length ≤ 1000) (h1 : Hid (c.rs.any (fun r => !r.may) = true)) (w : World) (hL : Laid w) (hN : AllOff w) (hc : CalIn w c) : Calls Tryd.prog 35 #[.agg #[.bool c.o0, .bool c.o1, .bool c.o2, .bool c.o3, .bool c.o4, .bool c.o5, .bool c.o6, .slice c.A c.rs.length c.cR, .slice c.D c.ds.length c.cD]] w fun e w' => e = .returned (.bool false) ∧ Below w.heap.size w w' := by
  have hn0 := hN.cell 0 (by decide)
  have hn1 := hN.cell 1 (by decide)
  have hn2 := hN.cell 2 (by decide)
  have hn3 := hN.cell 3 (by decide)
  have hn4 := hN.cell 4 (by decide)
  have hn5 := hN.cell 5 (by decide)
  have hn6 := hN.cell 6 (by decide)
  have hns := hN.size
  have heq : ∀ w, (Op.equalIn 10000 92 (.agg #[.bool c.o0, .bool c.o1, .bool c.o2, .bool c.o3, .bool c.o4, .bool c.o5, .bool c.o6]) (.agg #[.bool true, .bool true, .bool true, .bool true, .bool true, .bool true, .bool true])).run Tryd.prog w = .ok (!c.open_) w := by
    intro w; rw [eq_week Tryd.underlying92]; congr 1; unfold CalP.open_; cases c.o0 <;> cases c.o1 <;> cases c.o2 <;> cases c.o3 <;> cases c.o4 <;> cases c.o5 <;> cases c.o6 <;> rfl
  rw [ho.out] at heq
  have n1z : ¬ (100 : Int) < (c.rs.length : Int) := by omega
  have n1b : decide ((100 : Int) < (c.rs.length : Int)) = false := decide_eq_false n1z
  have n2z : ¬ (1000 : Int) < (c.ds.length : Int) := by omega
  have n2b : decide ((1000 : Int) < (c.ds.length : Int)) = false := decide_eq_false n2z
  have hB : Below w.heap.size w w := Below.refl _ _
  go_enter Tryd.func35, Tryd.ntmps35
  go_wp2_with fail
  refine (notR_c _ _ _ _ (hL.below (by repeat (first | assumption | exact Below.refl _ _ | (with_reducible refine Below.drew ?_) | (with_reducible refine below_drewN' ?_ _) | (with_reducible refine below_al ?_) | ((with_reducible refine below_set ?_ ?_); rotate_left; focus (first | (simp; done) | (simp; omega)))))) (hc.r.below (by repeat (first | assumption | exact Below.refl _ _ | (with_reducible refine Below.drew ?_) | (with_reducible refine below_drewN' ?_ _) | (with_reducible refine below_al ?_) | ((with_reducible refine below_set ?_ ?_); rotate_left; focus (first | (simp; done) | (simp; omega)))))) (by omega)).mono ?_; rintro e w1 ⟨rfl, hb1⟩
  have hz1 := hb1.size; (try simp at hz1); obtain ⟨hc1, hf1⟩ := bcell hb1; have hB1 := below_step (w := w) hb1 (by repeat (first | assumption | exact Below.refl _ _ | (with_reducible refine Below.drew ?_) | (with_reducible refine below_drewN' ?_ _) | (with_reducible refine below_al ?_) | ((with_reducible refine below_set ?_ ?_); rotate_left; focus (first | (simp; done) | (simp; omega)))))
  have le_w_w1 : w.heap.size ≤ w1.heap.size := by omega
  try have lt_w_w1 : w.heap.size < w1.heap.size := by omega
  rw [h1.out]
  go_wp2_with fail
  refine (notD_c _ _ _ _ (hL.below (by repeat (first | assumption | exact Below.refl _ _ | (with_reducible refine Below.drew ?_) | (with_reducible refine below_drewN' ?_ _) | (with_reducible refine below_al ?_) | ((with_reducible refine below_set ?_ ?_); rotate_left; focus (first | (simp; done) | (simp; omega)))))) (hc.d.below (by repeat (first | assumption | exact Below.refl _ _ | (with_reducible refine Below.drew ?_) | (with_reducible refine below_drewN' ?_ _) | (with_reducible refine below_al ?_) | ((with_reducible refine below_set ?_ ?_); rotate_left; focus (first | (simp; done) | (simp; omega)))))) (by omega)).mono ?_; rintro e w2 ⟨rfl, hb2⟩
  have hz2 := hb2.size; (try simp at hz2); obtain ⟨hc2, hf2⟩ := bcell hb2; have hB2 := below_step (w := w) hb2 (by repeat (first | assumption | exact Below.refl _ _ | (with_reducible refine Below.drew ?_) | (with_reducible refine below_drewN' ?_ _) | (with_reducible refine below_al ?_) | ((with_reducible refine below_set ?_ ?_); rotate_left; focus (first | (simp; done) | (simp; omega)))))
  have le_w_w2 : w.heap.size ≤ w2.heap.size := by omega
  try have lt_w_w2 : w.heap.size < w2.heap.size := by omega
  have le_w1_w2 : w1.heap.size ≤ w2.heap.size := by omega
  try have lt_w1_w2 : w1.heap.size < w2.heap.size := by omega
  go_wp2_with fail
  go_ret
  exact ⟨rfl, by repeat (first | assumption | exact Below.refl _ _ | (with_reducible refine Below.drew ?_) | (with_reducible refine below_drewN' ?_ _) | (with_reducible refine below_al ?_) | ((with_reducible refine below_set ?_ ?_); rotate_left; focus (first | (simp; done) | (simp; omega))))⟩
set_option maxRecDepth 100000 in
set_option maxHeartbeats 4000000 in
theorem cmay_nd (c : CalP) (ho : Hid (c.open_ = true)) (n1 : c.rs.length ≤ 100) (n2 : c.ds.length ≤ 1000) (h1 : Hid (c.rs.any (fun r => !r.may) = false)) (h2 : Hid (c.ds.any (fun n => !dayB n) = true)) (w : World) (hL : Laid w) (hN : AllOff w) (hc : CalIn w c) : Calls Tryd.prog 35 #[.agg #[.bool c.o0, .bool c.o1, .bool c.o2, .bool c.o3, .bool c.o4, .bool c.o5, .bool c.o6, .slice c.A c.rs.length c.cR, .slice c.D c.ds.length c.cD]] w fun e w' => e = .returned (.bool false) ∧ Below w.heap.size w w' := by
  have hn0 := hN.cell 0 (by decide)
  have hn1 := hN.cell 1 (by decide)
  have hn2 := hN.cell 2 (by decide)
  have hn3 := hN.cell 3 (by decide)
  have hn4 := hN.cell 4 (by decide)
  have hn5 := hN.cell 5 (by decide)
  have hn6 := hN.cell 6 (by decide)
  have hns := hN.size
  have heq : ∀ w, (Op.equalIn 10000 92 (.agg #[.bool c.o0, .bool c.o1, .bool c.o2, .bool c.o3, .bool c.o4, .bool c.o5, .bool c.o6]) (.agg #[.bool true, .bool true, .bool true, .bool true, .bool true, .bool true, .bool true])).run Tryd.prog w = .ok (!c.open_) w := by
    intro w; rw [eq_week Tryd.underlying92]; congr 1; unfold CalP.open_; cases c.o0 <;> cases c.o1 <;> cases c.o2 <;> cases c.o3 <;> cases c.o4 <;> cases c.o5 <;> cases c.o6 <;> rfl
  rw [ho.out] at heq
  have n1z : ¬ (100 : Int) < (c.rs.length : Int) := by omega
  have n1b : decide ((100 : Int) < (c.rs.length : Int)) = false := decide_eq_false n1z
  have n2z : ¬ (1000 : Int) < (c.ds.length : Int) := by omega
  have n2b : decide ((1000 : Int) < (c.ds.length : Int)) = false := decide_eq_false n2z
  have hB : Below w.heap.size w w := Below.refl _ _
  go_enter Tryd.func35, Tryd.ntmps35
  go_wp2_with fail
  refine (notR_c _ _ _ _ (hL.below (by repeat (first | assumption | exact Below.refl _ _ | (with_reducible refine Below.drew ?_) | (with_reducible refine below_drewN' ?_ _) | (with_reducible refine below_al ?_) | ((with_reducible refine below_set ?_ ?_); rotate_left; focus (first | (simp; done) | (simp; omega)))))) (hc.r.below (by repeat (first | assumption | exact Below.refl _ _ | (with_reducible refine Below.drew ?_) | (with_reducible refine below_drewN' ?_ _) | (with_reducible refine below_al ?_) | ((with_reducible refine below_set ?_ ?_); rotate_left; focus (first | (simp; done) | (simp; omega)))))) (by omega)).mono ?_; rintro e w1 ⟨rfl, hb1⟩
  have hz1 := hb1.size; (try simp at hz1); obtain ⟨hc1, hf1⟩ := bcell hb1; have hB1 := below_step (w := w) hb1 (by repeat (first | assumption | exact Below.refl _ _ | (with_reducible refine Below.drew ?_) | (with_reducible refine below_drewN' ?_ _) | (with_reducible refine below_al ?_) | ((with_reducible refine below_set ?_ ?_); rotate_left; focus (first | (simp; done) | (simp; omega)))))
  have le_w_w1 : w.heap.size ≤ w1.heap.size := by omega
  try have lt_w_w1 : w.heap.size < w1.heap.size := by omega
  rw [h1.out]
  go_wp2_with fail
  refine (notD_c _ _ _ _ (hL.below (by repeat (first | assumption | exact Below.refl _ _ | (with_reducible refine Below.drew ?_) | (with_reducible refine below_drewN' ?_ _) | (with_reducible refine below_al ?_) | ((with_reducible refine below_set ?_ ?_); rotate_left; focus (first | (simp; done) | (simp; omega)))))) (hc.d.below (by repeat (first | assumption | exact Below.refl _ _ | (with_reducible refine Below.drew ?_) | (with_reducible refine below_drewN' ?_ _) | (with_reducible refine below_al ?_) | ((with_reducible refine below_set ?_ ?_); rotate_left; focus (first | (simp; done) | (simp; omega)))))) (by omega)).mono ?_; rintro e w2 ⟨rfl, hb2⟩
  have hz2 := hb2.size; (try simp at hz2); obtain ⟨hc2, hf2⟩ := bcell hb2; have hB2 := below_step (w := w) hb2 (by repeat (first | assumption | exact Below.refl _ _ | (with_reducible refine Below.drew ?_) | (with_reducible refine below_drewN' ?_ _) | (with_reducible refine below_al ?_) | ((with_reducible refine below_set ?_ ?_); rotate_left; focus (first | (simp; done) | (simp; omega)))))
  have le_w_w2 : w.heap.size ≤ w2.heap.size := by omega
  try have lt_w_w2 : w.heap.size < w2.heap.size := by omega
  have le_w1_w2 : w1.heap.size ≤ w2.heap.size := by omega
  try have lt_w1_w2 : w1.heap.size < w2.heap.size := by omega
  rw [h2.out]
  go_wp2_with fail
  go_ret
  exact ⟨rfl, by repeat (first | assumption | exact Below.refl _ _ | (with_reducible refine Below.drew ?_) | (with_reducible refine below_drewN' ?_ _) | (with_reducible refine below_al ?_) | ((with_reducible refine below_set ?_ ?_); rotate_left; focus (first | (simp; done) | (simp; omega))))⟩
set_option maxRecDepth 100000 in
set_option maxHeartbeats 4000000 in
theorem cmay_ri (c : CalP) (ho : Hid (c.open_ = true)) (n1 : c.rs.length ≤ 100) (n2 : c.ds.length ≤ 1000) (h1 : Hid (c.rs.any (fun r => !r.may) = false)) (h2 : Hid (c.ds.any (fun n => !dayB n) = false)) (V : Bool) (h3 : Hid (risB c.ds = V)) (w : World) (hL : Laid w) (hN : AllOff w) (hc : CalIn w c) : Calls Tryd.prog 35 #[.agg #[.bool c.o0, .bool c.o1, .bool c.o2, .bool c.o3, .bool c.o4, .bool c.o5, .bool c.o6, .slice c.A c.rs.length c.cR, .slice c.D c.ds.length c.cD]] w fun e w' => e = .returned (.bool V) ∧ Below w.heap.size w w' := by
  have hn0 := hN.cell 0 (by decide)
  have hn1 := hN.cell 1 (by decide)
  have hn2 := hN.cell 2 (by decide)
  have hn3 := hN.cell 3 (by decide)
  have hn4 := hN.cell 4 (by decide)
  have hn5 := hN.cell 5 (by decide)
  have hn6 := hN.cell 6 (by decide)
  have hns := hN.size
  have heq : ∀ w, (Op.equalIn 10000 92 (.agg #[.bool c.o0, .bool c.o1, .bool c.o2, .bool c.o3, .bool c.o4, .bool c.o5, .bool c.o6]) (.agg #[.bool true, .bool true, .bool true, .bool true, .bool true, .bool true, .bool true])).run Tryd.prog w = .ok (!c.open_) w := by
    intro w; rw [eq_week Tryd.underlying92]; congr 1; unfold CalP.open_; cases c.o0 <;> cases c.o1 <;> cases c.o2 <;> cases c.o3 <;> cases c.o4 <;> cases c.o5 <;> cases c.o6 <;> rfl
  rw [ho.out] at heq
  have n1z : ¬ (100 : Int) < (c.rs.length : Int) := by omega
  have n1b : decide ((100 : Int) < (c.rs.length : Int)) = false := decide_eq_false n1z
  have n2z : ¬ (1000 : Int) < (c.ds.length : Int) := by omega
  have n2b : decide ((1000 : Int) < (c.ds.length : Int)) = false := decide_eq_false n2z
  have hB : Below w.heap.size w w := Below.refl _ _
  go_enter Tryd.func35, Tryd.ntmps35
  go_wp2_with fail
  refine (notR_c _ _ _ _ (hL.below (by repeat (first | assumption | exact Below.refl _ _ | (with_reducible refine Below.drew ?_) | (with_reducible refine below_drewN' ?_ _) | (with_reducible refine below_al ?_) | ((with_reducible refine below_set ?_ ?_); rotate_left; focus (first | (simp; done) | (simp; omega)))))) (hc.r.below (by repeat (first | assumption | exact Below.refl _ _ | (with_reducible refine Below.drew ?_) | (with_reducible refine below_drewN' ?_ _) | (with_reducible refine below_al ?_) | ((with_reducible refine below_set ?_ ?_); rotate_left; focus (first | (simp; done) | (simp; omega)))))) (by omega)).mono ?_; rintro e w1 ⟨rfl, hb1⟩
  have hz1 := hb1.size; (try simp at hz1); obtain ⟨hc1, hf1⟩ := bcell hb1; have hB1 := below_step (w := w) hb1 (by repeat (first | assumption | exact Below.refl _ _ | (with_reducible refine Below.drew ?_) | (with_reducible refine below_drewN' ?_ _) | (with_reducible refine below_al ?_) | ((with_reducible refine below_set ?_ ?_); rotate_left; focus (first | (simp; done) | (simp; omega)))))
  have le_w_w1 : w.heap.size ≤ w1.heap.size := by omega
  try have lt_w_w1 : w.heap.size < w1.heap.size := by omega
  rw [h1.out]
  go_wp2_with fail
  refine (notD_c _ _ _ _ (hL.below (by repeat (first | assumption | exact Below.refl _ _ | (with_reducible refine Below.drew ?_) | (with_reducible refine below_drewN' ?_ _) | (with_reducible refine below_al ?_) | ((with_reducible refine below_set ?_ ?_); rotate_left; focus (first | (simp; done) | (simp; omega)))))) (hc.d.below (by repeat (first | assumption | exact Below.refl _ _ | (with_reducible refine Below.drew ?_) | (with_reducible refine below_drewN' ?_ _) | (with_reducible refine below_al ?_) | ((with_reducible refine below_set ?_ ?_); rotate_left; focus (first | (simp; done) | (simp; omega)))))) (by omega)).mono ?_; rintro e w2 ⟨rfl, hb2⟩
  have hz2 := hb2.size; (try simp at hz2); obtain ⟨hc2, hf2⟩ := bcell hb2; have hB2 := below_step (w := w) hb2 (by repeat (first | assumption | exact Below.refl _ _ | (with_reducible refine Below.drew ?_) | (with_reducible refine below_drewN' ?_ _) | (with_reducible refine below_al ?_) | ((with_reducible refine below_set ?_ ?_); rotate_left; focus (first | (simp; done) | (simp; omega)))))
  have le_w_w2 : w.heap.size ≤ w2.heap.size := by omega
  try have lt_w_w2 : w.heap.size < w2.heap.size := by omega
  have le_w1_w2 : w1.heap.size ≤ w2.heap.size := by omega
  try have lt_w1_w2 : w1.heap.size < w2.heap.size := by omega
  rw [h2.out]
  go_wp2_with fail
  refine (rising_c _ _ _ _ (hc.d.below (by repeat (first | assumption | exact Below.refl _ _ | (with_reducible refine Below.drew ?_) | (with_reducible refine below_drewN' ?_ _) | (with_reducible refine below_al ?_) | ((with_reducible refine below_set ?_ ?_); rotate_left; focus (first | (simp; done) | (simp; omega)))))) (by omega)).mono ?_; rintro e w3 ⟨rfl, hb3⟩
  have hz3 := hb3.size; (try simp at hz3); obtain ⟨hc3, hf3⟩ := bcell hb3; have hB3 := below_step (w := w) hb3 (by repeat (first | assumption | exact Below.refl _ _ | (with_reducible refine Below.drew ?_) | (with_reducible refine below_drewN' ?_ _) | (with_reducible refine below_al ?_) | ((with_reducible refine below_set ?_ ?_); rotate_left; focus (first | (simp; done) | (simp; omega)))))
  have le_w_w3 : w.heap.size ≤ w3.heap.size := by omega
  try have lt_w_w3 : w.heap.size < w3.heap.size := by omega
  have le_w1_w3 : w1.heap.size ≤ w3.heap.size := by omega
  try have lt_w1_w3 : w1.heap.size < w3.heap.size := by omega
  have le_w2_w3 : w2.heap.size ≤ w3.heap.size := by omega
  try have lt_w2_w3 : w2.heap.size < w3.heap.size := by omega
  rw [h3.out]
  go_wp2_with fail
  go_ret
  exact ⟨rfl, by repeat (first | assumption | exact Below.refl _ _ | (with_reducible refine Below.drew ?_) | (with_reducible refine below_drewN' ?_ _) | (with_reducible refine below_al ?_) | ((with_reducible refine below_set ?_ ?_); rotate_left; focus (first | (simp; done) | (simp; omega))))⟩
theorem calMay_c (c : CalP) (w : World) (hL : Laid w) (hN : AllOff w) (hc : CalIn w c) : Calls Tryd.prog 35 #[.agg #[.bool c.o0, .bool c.o1, .bool c.o2, .bool c.o3, .bool c.o4, .bool c.o5, .bool c.o6, .slice c.A c.rs.length c.cR, .slice c.D c.ds.length c.cD]] w fun e w' => e = .returned (.bool c.may) ∧ Below w.heap.size w w' := by
  cases ho : c.open_
  · rw [CalP.may_no1 ho]; exact cmay_off c ho w hL hN hc
  by_cases n1 : c.rs.length ≤ 100
  · by_cases n2 : c.ds.length ≤ 1000
    · have e1 := any_not R8.may c.rs
      have e2 := any_not dayB c.ds
      cases h1 : c.rs.all R8.may
      · have e : c.may = false := by unfold CalP.may; rw [h1]; simp
        rw [h1] at e1
        rw [e]; exact cmay_nr c ho n1 n2 e1 w hL hN hc
      · cases h2 : c.ds.all dayB
        · have e : c.may = false := by unfold CalP.may; rw [h2]; simp
          rw [h1] at e1; rw [h2] at e2
          rw [e]; exact cmay_nd c ho n1 n2 e1 e2 w hL hN hc
        · have e : c.may = risB c.ds := by unfold CalP.may; rw [ho, h1, h2, decide_eq_true n1, decide_eq_true n2]; rfl
          rw [h1] at e1; rw [h2] at e2
          rw [e]; exact cmay_ri c ho n1 n2 e1 e2 _ rfl w hL hN hc
    · rw [CalP.may_no3 n2]; exact cmay_n2 c ho n1 n2 w hL hN hc
  · rw [CalP.may_no2 n1]; exact cmay_n1 c ho n1 w hL hN hc
end Go.Proofs.YtlilffoflkkbdaaDoor
