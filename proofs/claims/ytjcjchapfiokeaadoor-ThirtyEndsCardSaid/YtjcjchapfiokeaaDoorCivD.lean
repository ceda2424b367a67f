/- The contracts of the layer of days, fourth part: the days of numbers: the program's and the document's. Conditions: the table of months' lengths lies as the program's text lays it. -/
import Derived.Test.YtjcjchapfiokeaaDoorCivC
namespace Go.Proofs.YtjcjchapfiokeaaDoor
open Go.RowKit

/-- The program's four steps down to a year: what is left of the days, and the years so far, behind k steps. -/
def stR (n : Int) : Nat → Int
  | 0 => n - 1
  | 1 => (n - 1) % 146097
  | 2 => (n - 1) % 146097 - min ((n - 1) % 146097 / 36524) 3 * 36524
  | 3 => ((n - 1) % 146097 - min ((n - 1) % 146097 / 36524) 3 * 36524) % 1461
  | _ => ((n - 1) % 146097 - min ((n - 1) % 146097 / 36524) 3 * 36524) % 1461 - min (((n - 1) % 146097 - min ((n - 1) % 146097 / 36524) 3 * 36524) % 1461 / 365) 3 * 365
def stY (n : Int) : Nat → Int
  | 0 => 1
  | 1 => 1 + (n - 1) / 146097 * 400
  | 2 => 1 + (n - 1) / 146097 * 400 + min ((n - 1) % 146097 / 36524) 3 * 100
  | 3 => 1 + (n - 1) / 146097 * 400 + min ((n - 1) % 146097 / 36524) 3 * 100 + ((n - 1) % 146097 - min ((n - 1) % 146097 / 36524) 3 * 36524) / 1461 * 4
  | _ => 1 + (n - 1) / 146097 * 400 + min ((n - 1) % 146097 / 36524) 3 * 100 + ((n - 1) % 146097 - min ((n - 1) % 146097 / 36524) 3 * 36524) / 1461 * 4 + min (((n - 1) % 146097 - min ((n - 1) % 146097 / 36524) 3 * 36524) % 1461 / 365) 3
theorem stY_end (n : Int) : stY n 4 = Cal.yOf n := by
  simp only [stY, Cal.yOf]
  omega
theorem stR_end (n : Int) : stR n 4 = n - 1 - Cal.dby (Cal.yOf n) := by
  obtain ⟨b1, b2, c1, c2, d1, d2, e, f, g, h, k⟩ := Cal.parts n _ _ _ _ _ _ _ rfl rfl rfl rfl rfl rfl rfl
  rw [← stY_end]
  have hy : stY n 4 = 1 + 400 * ((n - 1) / 146097) + 100 * min ((n - 1) % 146097 / 36524) 3 + 4 * (((n - 1) % 146097 - min ((n - 1) % 146097 / 36524) 3 * 36524) / 1461) + min (((n - 1) % 146097 - min ((n - 1) % 146097 / 36524) 3 * 36524) % 1461 / 365) 3 := by simp only [stY]; omega
  rw [hy, Cal.dby_at _ _ _ _ b1 b2 c1 c2 d1 d2]
  simp only [stR]
  omega
theorem stR_bd (n : Int) :
    (0 ≤ stR n 1 ∧ stR n 1 ≤ 146096) ∧ (0 ≤ stR n 2 ∧ stR n 2 ≤ 36524) ∧ (0 ≤ stR n 3 ∧ stR n 3 ≤ 1460) ∧ (0 ≤ stR n 4 ∧ stR n 4 ≤ 365) := by
  obtain ⟨b1, b2, c1, c2, d1, d2, e, f, g, h, k⟩ := Cal.parts n _ _ _ _ _ _ _ rfl rfl rfl rfl rfl rfl rfl
  simp only [stR]
  refine ⟨by omega, by omega, by omega, by omega⟩
theorem stY_bd (n : Int) (h1 : 1 ≤ n) (h2 : n ≤ 3652059) (k : Nat) : 1 ≤ stY n k ∧ stY n k ≤ 9999 := by
  have a := Cal.yOf_bd n h1 h2
  rw [← stY_end] at a
  obtain ⟨b1, b2, c1, c2, d1, d2, _⟩ := Cal.parts n _ _ _ _ _ _ _ rfl rfl rfl rfl rfl rfl rfl
  match k with
  | 0 => simp [stY]
  | 1 => simp only [stY] at a ⊢; omega
  | 2 => simp only [stY] at a ⊢; omega
  | 3 => simp only [stY] at a ⊢; omega
  | k + 4 => exact a

def OfSt (n : Int) (i r y : Value) : Prop :=
  (i = .int .i64 0 ∧ r = .int .i64 (n - 1) ∧ y = .int .i64 1) ∨ (i = .int .i64 1 ∧ r = .int .i64 (stR n 1) ∧ y = .int .i64 (stY n 1)) ∨
  (i = .int .i64 2 ∧ r = .int .i64 (stR n 2) ∧ y = .int .i64 (stY n 2)) ∨ (i = .int .i64 3 ∧ r = .int .i64 (stR n 3) ∧ y = .int .i64 (stY n 3)) ∨
  (i = .int .i64 4 ∧ r = .int .i64 (n - 1 - Cal.dby (Cal.yOf n)) ∧ y = .int .i64 (Cal.yOf n))
theorem bcellB {B : Nat} {W w1 : World} (hb : Below B W w1) : (∀ b o, b < B → w1.cell? ⟨b, o, none⟩ = W.cell? ⟨b, o, none⟩) ∧ (∀ b o, b < B → w1.frozen? ⟨b, o, none⟩ = W.frozen? ⟨b, o, none⟩) :=
  ⟨fun b o h => hb.cell (p := ⟨b, o, none⟩) h, fun b o h => hb.frozen (p := ⟨b, o, none⟩) h⟩
theorem below_up {w wr : World} {o : Obj} (hb : Below (w.heap.size + 1) (w.alloc o) wr) (o' : Obj) (n : Nat) : Below (w.heap.size + 1) (w.alloc o) ((wr.alloc o').drewN n) :=
  below_drewN' (hb.alloc (by have := hb.size; simp at this; omega) _) _
theorem st1 (n : Int) : n - 1 - (n - 1) / 146097 * 146097 = stR n 1 ∧ 1 + (n - 1) / 146097 * 400 = stY n 1 := ⟨by simp only [stR]; omega, rfl⟩
theorem st2a (n : Int) (h : stR n 1 / 36524 ≤ 3) : stR n 1 - stR n 1 / 36524 * 36524 = stR n 2 ∧ stY n 1 + stR n 1 / 36524 * 100 = stY n 2 := by simp only [stR, stY] at h ⊢; omega
theorem st2b (n : Int) (h : 3 < stR n 1 / 36524) : stR n 1 - 3 * 36524 = stR n 2 ∧ stY n 1 + 3 * 100 = stY n 2 := by simp only [stR, stY] at h ⊢; omega
theorem st3 (n : Int) : stR n 2 - stR n 2 / 1461 * 1461 = stR n 3 ∧ stY n 2 + stR n 2 / 1461 * 4 = stY n 3 := ⟨by simp only [stR]; omega, rfl⟩
theorem st4a (n : Int) (h : stR n 3 / 365 ≤ 3) : stR n 3 - stR n 3 / 365 * 365 = n - 1 - Cal.dby (Cal.yOf n) ∧ stY n 3 + stR n 3 / 365 = Cal.yOf n := by rw [← stR_end, ← stY_end]; simp only [stR, stY] at h ⊢; omega
theorem st4b (n : Int) (h : 3 < stR n 3 / 365) : stR n 3 - 3 * 365 = n - 1 - Cal.dby (Cal.yOf n) ∧ stY n 3 + 3 = Cal.yOf n := by rw [← stR_end, ← stY_end]; simp only [stR, stY] at h ⊢; omega
theorem day_at (n y m : Int) (hy : y = Cal.yOf n) (h1 : 1 ≤ n) (h2 : n ≤ 3652059) (m1 : 1 ≤ m) (m2 : m ≤ 12) (g : Cal.cum y m ≤ n - 1 - Cal.dby y) (h : n - 1 - Cal.dby y - Cal.cum y m < Cal.len y m) :
    m = Cal.mOf n ∧ n - 1 - Cal.dby y - Cal.cum y m + 1 = Cal.dOf n := by
  subst hy
  have ⟨a, b⟩ := Cal.yOf_bd n h1 h2
  have D : Cal.Day n (Cal.yOf n) m (n - 1 - Cal.dby (Cal.yOf n) - Cal.cum (Cal.yOf n) m + 1) :=
    ⟨a, b, m1, m2, by omega, by omega, by unfold Cal.num; omega⟩
  exact ⟨D.of_eq.2.1.symm, D.of_eq.2.2.symm⟩
theorem of_no (n : Int) (w : World) (h : n < 1 ∨ 3652059 < n) : Calls Tryd.prog 54 #[.int .i64 n] w fun e w' => e = .returned (.tuple #[.agg #[.int .i64 0, .int .i64 0, .int .i64 0], .int .i64 3]) ∧ Below w.heap.size w w' := by
  rcases h with h | h
  · go_enter Tryd.func54, Tryd.ntmps54
    go_wp2
    exact bodyPost_ret (v := .tuple #[.agg #[.int .i64 0, .int .i64 0, .int .i64 0], .int .i64 3]) (by simp [results, Tryd.results54, go_sem]) rfl ⟨rfl, below_one _ _⟩
  · have h' : ¬ n < 1 := by omega
    go_enter Tryd.func54, Tryd.ntmps54
    go_wp2
    exact bodyPost_ret (v := .tuple #[.agg #[.int .i64 0, .int .i64 0, .int .i64 0], .int .i64 3]) (by simp [results, Tryd.results54, go_sem]) rfl ⟨rfl, below_one _ _⟩

theorem of_yes (n : Int) (w : World) (hL : Laid w) (h1 : 1 ≤ n) (h2 : n ≤ 3652059) : Calls Tryd.prog 54 #[.int .i64 n] w fun e w' => e = .returned (.tuple #[.agg #[.int .i64 (Cal.yOf n), .int .i64 (Cal.mOf n), .int .i64 (Cal.dOf n)], .int .i64 0]) ∧ Below w.heap.size w w' := by
  have i0 : ∀ w : World, (Instr.index 112 (.agg #[.int .i64 146097, .int .i64 400, .int .i64 24, .int .i64 36524, .int .i64 100, .int .i64 3, .int .i64 1461, .int .i64 4, .int .i64 24, .int .i64 365, .int .i64 1, .int .i64 3]) (.int .i64 0)).run Tryd.prog w = .ok (.agg #[.int .i64 146097, .int .i64 400, .int .i64 24]) w := fun _ => by kernel_rfl
  have i1 : ∀ w : World, (Instr.index 112 (.agg #[.int .i64 146097, .int .i64 400, .int .i64 24, .int .i64 36524, .int .i64 100, .int .i64 3, .int .i64 1461, .int .i64 4, .int .i64 24, .int .i64 365, .int .i64 1, .int .i64 3]) (.int .i64 1)).run Tryd.prog w = .ok (.agg #[.int .i64 36524, .int .i64 100, .int .i64 3]) w := fun _ => by kernel_rfl
  have i2 : ∀ w : World, (Instr.index 112 (.agg #[.int .i64 146097, .int .i64 400, .int .i64 24, .int .i64 36524, .int .i64 100, .int .i64 3, .int .i64 1461, .int .i64 4, .int .i64 24, .int .i64 365, .int .i64 1, .int .i64 3]) (.int .i64 2)).run Tryd.prog w = .ok (.agg #[.int .i64 1461, .int .i64 4, .int .i64 24]) w := fun _ => by kernel_rfl
  have i3 : ∀ w : World, (Instr.index 112 (.agg #[.int .i64 146097, .int .i64 400, .int .i64 24, .int .i64 36524, .int .i64 100, .int .i64 3, .int .i64 1461, .int .i64 4, .int .i64 24, .int .i64 365, .int .i64 1, .int .i64 3]) (.int .i64 3)).run Tryd.prog w = .ok (.agg #[.int .i64 365, .int .i64 1, .int .i64 3]) w := fun _ => by kernel_rfl
  have HB := Lib.hid (stR_bd n)
  have HY := Lib.hid (stY_bd n h1 h2)
  have B0 := below_one w (.cells #[.int .i64 0, .int .i64 0, .int .i64 0] 33)
  go_enter Tryd.func54, Tryd.ntmps54
  go_wp2
  go_loopw [0, 4, 23] (fun r y i wr => OfSt n i r y ∧ Below (w.heap.size + 1) (w.alloc (.cells #[.int .i64 0, .int .i64 0, .int .i64 0] 33)) wr) (fun _ _ i _ => 4 - (intOf i).toNat)
  case atStart => exact ⟨Or.inl ⟨rfl, rfl, rfl⟩, Below.refl _ _⟩
  case round =>
    obtain ⟨hs, hb⟩ := hrel
    rcases hs with ⟨rfl, rfl, rfl⟩ | ⟨rfl, rfl, rfl⟩ | ⟨rfl, rfl, rfl⟩ | ⟨rfl, rfl, rfl⟩ | ⟨rfl, rfl, rfl⟩
    · have : (n - 1) / 146097 ≤ 24 := by omega
      have H := Lib.hid (st1 n)
      go_wp2
      go_quiet (fail)
      go_wp2
      exact ⟨⟨Or.inr (Or.inl ⟨rfl, by rw [H.out.1], by rw [H.out.2]⟩), below_up hb _ _⟩, by simp [intOf]⟩
    · obtain ⟨r1, r2⟩ := HB.out.1
      obtain ⟨y1, y2⟩ := HY.out 1
      by_cases hq : stR n 1 / 36524 ≤ 3
      · have H := Lib.hid (st2a n hq)
        go_wp2
        go_quiet (fail)
        go_wp2
        exact ⟨⟨Or.inr (Or.inr (Or.inl ⟨rfl, by rw [H.out.1], by rw [H.out.2]⟩)), below_up hb _ _⟩, by simp [intOf]⟩
      · have hq' : 3 < stR n 1 / 36524 := by omega
        have H := Lib.hid (st2b n hq')
        go_wp2
        go_quiet (fail)
        go_wp2
        exact ⟨⟨Or.inr (Or.inr (Or.inl ⟨rfl, by rw [← H.out.1]; rfl, by rw [← H.out.2]; rfl⟩)), below_up hb _ _⟩, by simp [intOf]⟩
    · obtain ⟨r1, r2⟩ := HB.out.2.1
      obtain ⟨y1, y2⟩ := HY.out 2
      have : stR n 2 / 1461 ≤ 24 := by omega
      have H := Lib.hid (st3 n)
      go_wp2
      go_quiet (fail)
      go_wp2
      exact ⟨⟨Or.inr (Or.inr (Or.inr (Or.inl ⟨rfl, by rw [H.out.1], by rw [H.out.2]⟩))), below_up hb _ _⟩, by simp [intOf]⟩
    · obtain ⟨r1, r2⟩ := HB.out.2.2.1
      obtain ⟨y1, y2⟩ := HY.out 3
      by_cases hq : stR n 3 / 365 ≤ 3
      · have H := Lib.hid (st4a n hq)
        go_wp2
        go_quiet (fail)
        go_wp2
        exact ⟨⟨Or.inr (Or.inr (Or.inr (Or.inr ⟨rfl, by rw [H.out.1], by rw [H.out.2]⟩))), below_up hb _ _⟩, by simp [intOf]⟩
      · have hq' : 3 < stR n 3 / 365 := by omega
        have H := Lib.hid (st4b n hq')
        go_wp2
        go_quiet (fail)
        go_wp2
        exact ⟨⟨Or.inr (Or.inr (Or.inr (Or.inr ⟨rfl, by rw [← H.out.1]; rfl, by rw [← H.out.2]⟩))), below_up hb _ _⟩, by simp [intOf]⟩
    · obtain ⟨hc, hf⟩ := bcellB hb
      have HL := Lib.hid (hL.below ((below_one w _).trans (hb.mono (by omega))))
      obtain ⟨y1, y2⟩ := Cal.yOf_bd n h1 h2
      obtain ⟨s1, s2⟩ := Cal.yOf_spec n
      have HS := Lib.hid (Cal.dby_succ (Cal.yOf n))
      have HE := Lib.hid (Cal.cum_end (Cal.yOf n))
      have HO := Lib.hid (Cal.cum_one (Cal.yOf n))
      obtain ⟨q1, q2⟩ := Cal.dby_bd (Cal.yOf n) y1 (by omega)
      have r2 : n - 1 - Cal.dby (Cal.yOf n) ≤ 365 := by have := HS.out; have := Cal.lp_01 (Cal.yOf n); omega
      have hwr : w.heap.size < wr.heap.size := by have := hb.size; simp at this; omega
      obtain ⟨wo, rfl⟩ : ∃ wo : World, wo = wr := ⟨_, rfl⟩
      go_wp2
      go_loop [0, 8] (fun r i => ∃ m : Int, 1 ≤ m ∧ m ≤ 12 ∧ i = .int .i64 m ∧ Cal.cum (Cal.yOf n) m ≤ n - 1 - Cal.dby (Cal.yOf n) ∧ r = .int .i64 (n - 1 - Cal.dby (Cal.yOf n) - Cal.cum (Cal.yOf n) m)) (fun _ i => (12 - intOf i).toNat)
      case atStart => exact ⟨1, by omega, by omega, rfl, by rw [HO.out]; omega, by rw [HO.out, Int.sub_zero]⟩
      case round =>
        obtain ⟨m, m1, m2, rfl, g, rfl⟩ := hrel
        obtain ⟨c1, c2⟩ := Cal.cum_bd (Cal.yOf n) m m1 (by omega)
        obtain ⟨l1, l2⟩ := Cal.len_bd (Cal.yOf n) m m1 m2
        have HC := Lib.hid (Cal.cum_succ (Cal.yOf n) m m1 m2)
        by_cases hlt : Cal.len (Cal.yOf n) m ≤ n - 1 - Cal.dby (Cal.yOf n) - Cal.cum (Cal.yOf n) m
        · have m12 : m < 12 := by
            by_cases c : m = 12
            · subst c; have a := HC.out; have b := HE.out; have c := HS.out; simp only [Int.reduceAdd] at a; omega
            · omega
          go_wp2_with (go_at_call 46; refine (length_c _ _ _ HL.out).mono ?_; rintro e w' ⟨rfl, rfl⟩)
          go_round
          case rel => exact ⟨m + 1, by omega, by omega, rfl, by rw [HC.out]; omega, by rw [HC.out, Int.sub_sub]⟩
          case measure => simp [intOf]; omega
        · have HD := Lib.hid (day_at n _ m rfl h1 h2 m1 m2 g (by omega))
          go_wp2_with (go_at_call 46; refine (length_c _ _ _ HL.out).mono ?_; rintro e w' ⟨rfl, rfl⟩)
          refine bodyPost_ret (v := .tuple #[.agg #[.int .i64 (Cal.yOf n), .int .i64 m, .int .i64 (n - 1 - Cal.dby (Cal.yOf n) - Cal.cum (Cal.yOf n) m + 1)], .int .i64 0]) (by simp [results, Tryd.results54, go_sem, hc]) rfl ⟨?_, ?_⟩
          · rw [HD.out.2, HD.out.1]
          · exact (((((below_one w _).trans (hb.mono (by omega))).setCell (p := ⟨w.heap.size, 0, none⟩) (Nat.le_refl _) _).setCell (p := ⟨w.heap.size, 1, none⟩) (Nat.le_refl _) _).setCell (p := ⟨w.heap.size, 2, none⟩) (Nat.le_refl _) _)
end Go.Proofs.YtjcjchapfiokeaaDoor
