/- The plain calendar, more: the next day, the order of days, eras. No program in sight. Conditions: none. -/
import Derived.Test.YtjcjchapfiokeaaDoorCal
namespace Go.Proofs.YtjcjchapfiokeaaDoor
namespace Cal

theorem next_mid {n y m d : Int} (h : Day n y m d) (k : d ≠ len y m) : Day (n + 1) y m (d + 1) :=
  ⟨h.y1, h.y2, h.m1, h.m2, by have := h.d1; omega, by have := h.d2; omega, by have := h.eq; unfold num at this ⊢; omega⟩
theorem next_month {n y m d : Int} (h : Day n y m d) (k : d = len y m) (g : m ≠ 12) : Day (n + 1) y (m + 1) 1 := by
  have m1 := h.m1
  have m2 := h.m2
  refine ⟨h.y1, h.y2, by omega, by omega, by omega, by have := len_bd y (m + 1) (by omega) (by omega); omega, ?_⟩
  have := h.eq
  have := cum_succ y m m1 m2
  unfold num at *
  omega
theorem next_year {n y m d : Int} (h : Day n y m d) (k : d = len y m) (g : m = 12) (hn : n < 3652059) : Day (n + 1) (y + 1) 1 1 := by
  have y1 := h.y1
  have y2 := h.y2
  have e := h.eq
  subst g
  have c := cum_succ y 12 (by omega) (by omega)
  have c' := cum_end y
  simp only [Int.reduceAdd] at c
  have s := dby_succ y
  have o := cum_one (y + 1)
  unfold num at e
  have z : y ≠ 9999 := by
    intro z
    subst z
    have t := dby_top
    simp only [Int.reduceAdd] at s
    omega
  exact ⟨by omega, by omega, by omega, by omega, by omega, by have := len_bd (y + 1) 1 (by omega) (by omega); omega, by unfold num; omega⟩

/-- The order of days is the order of their numbers. -/
theorem lt_year {n y m d n' y' m' d' : Int} (h : Day n y m d) (k : Day n' y' m' d') (g : y < y') : n < n' := by
  have a := h.in_year
  have b := k.in_year
  have := dby_mono (y + 1) y' (by omega)
  omega
theorem lt_month {n y m d n' m' d' : Int} (h : Day n y m d) (k : Day n' y m' d') (g : m < m') : n < n' := by
  have a := h.in_month
  have b := k.in_month
  have := cum_mono y (m + 1) m' (by have := h.m1; omega) (by omega) (by have := k.m2; omega)
  omega
theorem lt_day {n y m d n' d' : Int} (h : Day n y m d) (k : Day n' y m d') (g : d < d') : n < n' := by
  have a := h.eq
  have b := k.eq
  unfold num at a b
  omega
theorem lt_iff {n y m d n' y' m' d' : Int} (h : Day n y m d) (k : Day n' y' m' d') : n < n' ↔ (y < y' ∨ y = y' ∧ (m < m' ∨ m = m' ∧ d < d')) := by
  constructor
  · intro g
    by_cases a : y < y'
    · exact Or.inl a
    · by_cases a' : y' < y
      · have := lt_year k h a'; omega
      · have e : y = y' := by omega
        subst e
        refine Or.inr ⟨rfl, ?_⟩
        by_cases b : m < m'
        · exact Or.inl b
        · by_cases b' : m' < m
          · have := lt_month k h b'; omega
          · have e : m = m' := by omega
            subst e
            refine Or.inr ⟨rfl, ?_⟩
            by_cases c : d < d'
            · exact c
            · by_cases c' : d' < d
              · have := lt_day k h c'; omega
              · have e : d = d' := by omega
                subst e
                have := h.eq; have := k.eq; omega
  · rintro (g | ⟨rfl, g | ⟨rfl, g⟩⟩)
    · exact lt_year h k g
    · exact lt_month h k g
    · exact lt_day h k g
theorem eq_iff {n y m d n' y' m' d' : Int} (h : Day n y m d) (k : Day n' y' m' d') : n = n' ↔ (y = y' ∧ m = m' ∧ d = d') := by
  constructor
  · rintro rfl; exact h.unique k
  · rintro ⟨rfl, rfl, rfl⟩; rw [← h.eq, ← k.eq]

theorem len_era (y m : Int) : len (y + 400) m = len y m := by
  have := lp_era y 1
  unfold len
  rw [show y + 400 = y + 400 * 1 from by omega, this]
theorem cum_era (y m : Int) : cum (y + 400) m = cum y m := by
  have := lp_era y 1
  unfold cum
  rw [show y + 400 = y + 400 * 1 from by omega, this]
theorem num_era (y m d : Int) : num (y + 400) m d = num y m d + 146097 := by
  have := dby_era y 1
  unfold num
  rw [cum_era, show y + 400 = y + 400 * 1 from by omega, this]
  omega
theorem wd_era (n : Int) : wd (n + 146097) = wd n := by unfold wd; omega
theorem wd_next (n : Int) : wd (n + 1) = (wd n + 1) % 7 := by unfold wd; omega
end Cal
end Go.Proofs.YtjcjchapfiokeaaDoor
