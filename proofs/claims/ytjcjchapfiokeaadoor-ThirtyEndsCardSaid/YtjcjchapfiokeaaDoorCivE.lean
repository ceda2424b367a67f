/- The contracts of the layer of days, fifth part: the days of numbers by the document, and which numbers are days. Conditions: none. -/
import Derived.Test.YtjcjchapfiokeaaDoorCivD
namespace Go.Proofs.YtjcjchapfiokeaaDoor
open Go.RowKit

theorem rof_no (n : Int) (w : World) (h : n < 1 ∨ 3652059 < n) : Calls Tryd.prog 26 #[.int .i64 n] w fun e w' => e = .returned (.tuple #[.agg #[.int .i64 0, .int .i64 0, .int .i64 0], .int .i64 3]) ∧ Below w.heap.size w w' := by
  rcases h with h | h
  · go_enter Tryd.func26, Tryd.ntmps26
    go_wp2
    exact bodyPost_ret (v := .tuple #[.agg #[.int .i64 0, .int .i64 0, .int .i64 0], .int .i64 3]) (by simp [results, Tryd.results26, go_sem]) rfl ⟨rfl, below_one _ _⟩
  · have h' : ¬ n < 1 := by omega
    go_enter Tryd.func26, Tryd.ntmps26
    go_wp2
    exact bodyPost_ret (v := .tuple #[.agg #[.int .i64 0, .int .i64 0, .int .i64 0], .int .i64 3]) (by simp [results, Tryd.results26, go_sem]) rfl ⟨rfl, below_one _ _⟩
theorem day_at' (n y m : Int) (hy : y = Cal.yOf n) (h1 : 1 ≤ n) (h2 : n ≤ 3652059) (m1 : 1 ≤ m) (m2 : m ≤ 12) (g : Cal.cum y m < n - Cal.dby y) (h : n - Cal.dby y - Cal.cum y m ≤ Cal.len y m) :
    m = Cal.mOf n ∧ n - Cal.dby y - Cal.cum y m = Cal.dOf n := by
  have := day_at n y m hy h1 h2 m1 m2 (by omega) (by omega)
  exact ⟨this.1, by rw [← this.2]; omega⟩

theorem rof_yes (n : Int) (w : World) (h1 : 1 ≤ n) (h2 : n ≤ 3652059) : Calls Tryd.prog 26 #[.int .i64 n] w fun e w' => e = .returned (.tuple #[.agg #[.int .i64 (Cal.yOf n), .int .i64 (Cal.mOf n), .int .i64 (Cal.dOf n)], .int .i64 0]) ∧ Below w.heap.size w w' := by
  have T1 := Lib.hid Cal.dby_one
  have T2 := Lib.hid Cal.dby_top
  go_enter Tryd.func26, Tryd.ntmps26
  go_wp2
  go_loop [4, 5] (fun l h => ∃ lo hi : Int, 1 ≤ lo ∧ lo < hi ∧ hi ≤ 10000 ∧ l = .int .i64 lo ∧ h = .int .i64 hi ∧ Cal.dby lo < n ∧ n ≤ Cal.dby hi) (fun l h => (intOf h - intOf l).toNat)
  case atStart => exact ⟨1, 10000, by omega, by omega, by omega, rfl, rfl, by rw [T1.out]; omega, by rw [T2.out]; omega⟩
  case round =>
    obtain ⟨lo, hi, a1, a2, a3, rfl, rfl, a4, a5⟩ := hrel
    by_cases hlt : 1 < hi - lo
    · go_wp2_with (go_at_call 55; refine (ahead_c _ (by omega) (by omega) _).mono ?_; rintro e w' ⟨rfl, rfl⟩)
      · go_round
        case rel => exact ⟨(lo + hi) / 2, hi, by omega, by omega, by omega, rfl, rfl, by assumption, by assumption⟩
        case measure => simp [intOf]; omega
      · go_round
        case rel => exact ⟨lo, (lo + hi) / 2, by omega, by omega, by omega, rfl, rfl, by assumption, by omega⟩
        case measure => simp [intOf]; omega
    · have e : hi = lo + 1 := by omega
      have ey : lo = Cal.yOf n := Cal.year_unique ⟨a4, by rw [← e]; exact a5⟩ (Cal.yOf_spec n)
      subst e; subst ey
      obtain ⟨b1, b2⟩ := Cal.dby_bd (Cal.yOf n) a1 (by omega)
      have HS := Lib.hid (Cal.dby_succ (Cal.yOf n))
      have HE := Lib.hid (Cal.cum_end (Cal.yOf n))
      have HO := Lib.hid (Cal.cum_one (Cal.yOf n))
      have r2 : n - Cal.dby (Cal.yOf n) ≤ 366 := by have := HS.out; have := Cal.lp_01 (Cal.yOf n); omega
      go_wp2_with (go_at_call 55; refine (ahead_c _ (by omega) (by omega) _).mono ?_; rintro e w' ⟨rfl, rfl⟩)
      go_loop [7, 8] (fun r i => ∃ m : Int, 1 ≤ m ∧ m ≤ 12 ∧ i = .int .i64 m ∧ Cal.cum (Cal.yOf n) m < n - Cal.dby (Cal.yOf n) ∧ r = .int .i64 (n - Cal.dby (Cal.yOf n) - Cal.cum (Cal.yOf n) m)) (fun _ i => (12 - intOf i).toNat)
      case atStart => exact ⟨1, by omega, by omega, rfl, by rw [HO.out]; omega, by rw [HO.out, Int.sub_zero]⟩
      case round =>
        obtain ⟨m, m1, m2, rfl, g, rfl⟩ := hrel
        obtain ⟨c1, c2⟩ := Cal.cum_bd (Cal.yOf n) m m1 (by omega)
        obtain ⟨l1, l2⟩ := Cal.len_bd (Cal.yOf n) m m1 m2
        have HC := Lib.hid (Cal.cum_succ (Cal.yOf n) m m1 m2)
        by_cases hlt : Cal.len (Cal.yOf n) m < n - Cal.dby (Cal.yOf n) - Cal.cum (Cal.yOf n) m
        · have m12 : m < 12 := by
            by_cases c : m = 12
            · subst c; have a := HC.out; have b := HE.out; have c := HS.out; simp only [Int.reduceAdd] at a; omega
            · omega
          go_wp2_with (go_at_call 27; refine (rlength_c _ _ _).mono ?_; rintro e w' ⟨rfl, rfl⟩)
          go_round
          case rel => exact ⟨m + 1, by omega, by omega, rfl, by rw [HC.out]; omega, by rw [HC.out, Int.sub_sub]⟩
          case measure => simp [intOf]; omega
        · have HD := Lib.hid (day_at' n _ m rfl h1 h2 m1 m2 g (by omega))
          go_wp2_with (go_at_call 27; refine (rlength_c _ _ _).mono ?_; rintro e w' ⟨rfl, rfl⟩)
          refine bodyPost_ret (v := .tuple #[.agg #[.int .i64 (Cal.yOf n), .int .i64 m, .int .i64 (n - Cal.dby (Cal.yOf n) - Cal.cum (Cal.yOf n) m)], .int .i64 0]) (by simp [results, Tryd.results26, go_sem]) rfl ⟨?_, ?_⟩
          · rw [HD.out.2, HD.out.1]
          · exact below_one _ _
def dayB (n : Int) : Bool := decide (1 ≤ n ∧ n ≤ 3652059)
theorem dayB_in {n : Int} (h1 : 1 ≤ n) (h2 : n ≤ 3652059) : dayB n = true := decide_eq_true ⟨h1, h2⟩
theorem dayB_out {n : Int} (h : n < 1 ∨ 3652059 < n) : dayB n = false := decide_eq_false (by omega)
theorem rday_c (n : Int) (w : World) : Calls Tryd.prog 24 #[.int .i64 n] w fun e w' => e = .returned (.bool (dayB n)) ∧ w = w' := by
  by_cases h1 : 1 ≤ n
  · by_cases h2 : n ≤ 3652059
    · have H := Lib.hid (dayB_in h1 h2)
      go_enter Tryd.func24, Tryd.ntmps24
      go_wp2
      go_ret
      exact ⟨ret_bool H.out.symm, rfl⟩
    · have H := Lib.hid (dayB_out (n := n) (by omega))
      go_enter Tryd.func24, Tryd.ntmps24
      go_wp2
      go_ret
      exact ⟨ret_bool H.out.symm, rfl⟩
  · have H := Lib.hid (dayB_out (n := n) (by omega))
    go_enter Tryd.func24, Tryd.ntmps24
    go_wp2
    go_ret
    exact ⟨ret_bool H.out.symm, rfl⟩
end Go.Proofs.YtjcjchapfiokeaaDoor
