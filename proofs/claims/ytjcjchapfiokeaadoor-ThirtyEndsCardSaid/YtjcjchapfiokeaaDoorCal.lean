/- The plain calendar: leap years, months' lengths, the numbers of days and the days of numbers, over Lean's own whole numbers; no program in sight. Conditions: none. -/
namespace Go.Proofs.YtjcjchapfiokeaaDoor
namespace Cal

def lp (y : Int) : Int := if y % 4 = 0 ∧ (y % 100 ≠ 0 ∨ y % 400 = 0) then 1 else 0
def leapB (y : Int) : Bool := decide (y % 4 = 0 ∧ (y % 100 ≠ 0 ∨ y % 400 = 0))
def len (y m : Int) : Int :=
  if m = 2 then 28 + lp y else if m = 4 ∨ m = 6 ∨ m = 9 ∨ m = 11 then 30 else if 1 ≤ m ∧ m ≤ 12 then 31 else 0
def mayB (y m d : Int) : Bool := decide (1 ≤ y ∧ y ≤ 9999 ∧ 1 ≤ d ∧ d ≤ len y m)
def dby (y : Int) : Int := (y - 1) * 365 + (y - 1) / 4 - (y - 1) / 100 + (y - 1) / 400
def cum (y m : Int) : Int :=
  if m ≤ 1 then 0 else if m = 2 then 31 else (153 * m - 457) / 5 + 59 + lp y
def num (y m d : Int) : Int := dby y + cum y m + d
def wd (n : Int) : Int := (n + 6) % 7

theorem lp_01 (y : Int) : lp y = 0 ∨ lp y = 1 := by unfold lp; split <;> simp
theorem leapB_lp (y : Int) : (leapB y = true ∧ lp y = 1) ∨ (leapB y = false ∧ lp y = 0) := by
  unfold leapB lp
  by_cases h : y % 4 = 0 ∧ (y % 100 ≠ 0 ∨ y % 400 = 0)
  · left; exact ⟨decide_eq_true h, if_pos h⟩
  · right; exact ⟨decide_eq_false h, if_neg h⟩
theorem leapB_yes {y : Int} (h : leapB y = true) : lp y = 1 := by
  rcases leapB_lp y with ⟨_, h2⟩ | ⟨h1, _⟩
  · exact h2
  · rw [h] at h1; cases h1
theorem leapB_no {y : Int} (h : leapB y = false) : lp y = 0 := by
  rcases leapB_lp y with ⟨h1, _⟩ | ⟨_, h2⟩
  · rw [h] at h1; cases h1
  · exact h2
theorem lp_eq (y : Int) : lp y = if leapB y = true then 1 else 0 := by
  rcases leapB_lp y with ⟨h1, h2⟩ | ⟨h1, h2⟩ <;> simp [h1, h2]
theorem lp_era (y k : Int) : lp (y + 400 * k) = lp y := by
  unfold lp
  have h1 : (y + 400 * k) % 4 = y % 4 := by omega
  have h2 : (y + 400 * k) % 100 = y % 100 := by omega
  have h3 : (y + 400 * k) % 400 = y % 400 := by omega
  rw [h1, h2, h3]

/-- The months, one by one. -/
theorem month_cases {m : Int} (h1 : 1 ≤ m) (h2 : m ≤ 12) : m = 1 ∨ m = 2 ∨ m = 3 ∨ m = 4 ∨ m = 5 ∨ m = 6 ∨ m = 7 ∨ m = 8 ∨ m = 9 ∨ m = 10 ∨ m = 11 ∨ m = 12 := by omega

theorem len_bd (y m : Int) (h1 : 1 ≤ m) (h2 : m ≤ 12) : 28 ≤ len y m ∧ len y m ≤ 31 := by
  have := lp_01 y
  unfold len
  split
  · omega
  · split
    · omega
    · split <;> omega
theorem len_out (y m : Int) (h : m < 1 ∨ 12 < m) : len y m = 0 := by
  unfold len
  rw [if_neg (by omega), if_neg (by omega), if_neg (by omega)]
theorem len_nonneg (y m : Int) : 0 ≤ len y m ∧ len y m ≤ 31 := by
  by_cases h : 1 ≤ m ∧ m ≤ 12
  · have := len_bd y m h.1 h.2; omega
  · rw [len_out y m (by omega)]; omega
theorem len_in {y m : Int} (h : 0 < len y m) : 1 ≤ m ∧ m ≤ 12 := by
  by_cases c : 1 ≤ m ∧ m ≤ 12
  · exact c
  · rw [len_out y m (by omega)] at h; omega
theorem cum_succ (y m : Int) (h1 : 1 ≤ m) (h2 : m ≤ 12) : cum y (m + 1) = cum y m + len y m := by
  rcases month_cases h1 h2 with h | h | h | h | h | h | h | h | h | h | h | h <;> subst h <;> simp [cum, len] <;> omega
theorem cum_one (y : Int) : cum y 1 = 0 := by simp [cum]
theorem cum_end (y : Int) : cum y 13 = 365 + lp y := by simp [cum]
theorem cum_mono (y a b : Int) (h1 : 1 ≤ a) (h : a ≤ b) (h2 : b ≤ 13) : cum y a ≤ cum y b := by
  have := lp_01 y
  unfold cum
  split
  · split
    · omega
    · split <;> omega
  · split
    · split
      · omega
      · split <;> omega
    · split
      · omega
      · split <;> omega
theorem cum_bd (y m : Int) (h1 : 1 ≤ m) (h2 : m ≤ 13) : 0 ≤ cum y m ∧ cum y m ≤ 366 := by
  have := lp_01 y
  have a := cum_mono y 1 m (by omega) h1 h2
  have b := cum_mono y m 13 h1 h2 (by omega)
  rw [cum_one] at a; rw [cum_end] at b
  omega

theorem dby_one : dby 1 = 0 := by decide
theorem dby_mono (a b : Int) (h : a ≤ b) : dby a ≤ dby b := by unfold dby; omega
theorem dby_lt (a b : Int) (h : a < b) : dby a + 365 ≤ dby b := by unfold dby; omega
theorem dby_succ (y : Int) : dby (y + 1) = dby y + 365 + lp y := by
  unfold dby lp
  by_cases h4 : y % 4 = 0
  · by_cases h1 : y % 100 = 0
    · by_cases h400 : y % 400 = 0
      · rw [if_pos ⟨h4, Or.inr h400⟩]; omega
      · rw [if_neg (by omega)]; omega
    · rw [if_pos ⟨h4, Or.inl h1⟩]; omega
  · rw [if_neg (by omega)]; omega
theorem dby_bd (y : Int) (h1 : 1 ≤ y) (h2 : y ≤ 10000) : 0 ≤ dby y ∧ dby y ≤ 3652059 := by unfold dby; omega
theorem dby_era (y k : Int) : dby (y + 400 * k) = dby y + 146097 * k := by unfold dby; omega
theorem dby_top : dby 10000 = 3652059 := by decide

/-- The year of a number. -/
def yOf (n : Int) : Int :=
  let r := (n - 1) % 146097
  let b := min (r / 36524) 3
  let r2 := r - b * 36524
  let r3 := r2 % 1461
  let d := min (r3 / 365) 3
  1 + 400 * ((n - 1) / 146097) + 100 * b + 4 * (r2 / 1461) + d
/-- The month of a day of a year, counted from 0. -/
def mo (l r : Int) : Int :=
  if r < 31 then 1 else if r < 59 + l then 2 else if r < 90 + l then 3 else if r < 120 + l then 4 else if r < 151 + l then 5 else if r < 181 + l then 6
  else if r < 212 + l then 7 else if r < 243 + l then 8 else if r < 273 + l then 9 else if r < 304 + l then 10 else if r < 334 + l then 11 else 12
def mOf (n : Int) : Int := mo (lp (yOf n)) (n - 1 - dby (yOf n))
def dOf (n : Int) : Int := n - dby (yOf n) - cum (yOf n) (mOf n)

theorem dby_at (a b c d : Int) (b1 : 0 ≤ b) (b2 : b ≤ 3) (c1 : 0 ≤ c) (c2 : c ≤ 24) (d1 : 0 ≤ d) (d2 : d ≤ 3) :
    dby (1 + 400 * a + 100 * b + 4 * c + d) = 146097 * a + 36524 * b + 1461 * c + 365 * d := by
  have q4 : (1 + 400 * a + 100 * b + 4 * c + d - 1) / 4 = 100 * a + 25 * b + c := by omega
  have q1 : (1 + 400 * a + 100 * b + 4 * c + d - 1) / 100 = 4 * a + b := by omega
  have q400 : (1 + 400 * a + 100 * b + 4 * c + d - 1) / 400 = a := by omega
  unfold dby; rw [q4, q1, q400]; omega
theorem lp_at (a b c : Int) (b1 : 0 ≤ b) (b2 : b ≤ 3) (c1 : 0 ≤ c) (c2 : c ≤ 24) (h : c ≤ 23 ∨ b = 3) :
    lp (1 + 400 * a + 100 * b + 4 * c + 3) = 1 := by
  unfold lp
  rw [if_pos]
  refine ⟨by omega, ?_⟩
  rcases h with h | h
  · left; omega
  · subst h
    by_cases k : c = 24
    · right; subst k; omega
    · left; omega
theorem parts (n a r b r2 c r3 d : Int) (ha : a = (n - 1) / 146097) (hr : r = (n - 1) % 146097) (hb : b = min (r / 36524) 3) (h2 : r2 = r - b * 36524)
    (hc : c = r2 / 1461) (h3 : r3 = r2 % 1461) (hd : d = min (r3 / 365) 3) :
    0 ≤ b ∧ b ≤ 3 ∧ 0 ≤ c ∧ c ≤ 24 ∧ 0 ≤ d ∧ d ≤ 3 ∧ n - 1 = 146097 * a + 36524 * b + 1461 * c + r3 ∧ 0 ≤ r3 - 365 * d ∧ r3 ≤ 1460 ∧ (r3 - 365 * d ≤ 364 ∨ d = 3) ∧ (r3 ≤ 1459 ∨ c ≤ 23 ∨ b = 3) := by
  have r0 : 0 ≤ r ∧ r ≤ 146096 := by omega
  have e1 : n - 1 = 146097 * a + r := by omega
  clear ha hr
  have b1 : 0 ≤ b ∧ b ≤ 3 := by omega
  have e2 : 0 ≤ r2 ∧ (r2 ≤ 36523 ∨ b = 3 ∧ r2 ≤ 36524) := by omega
  clear hb
  have e3 : r = 36524 * b + r2 := by omega
  clear h2
  have c1 : 0 ≤ c ∧ c ≤ 24 := by omega
  have e4 : r2 = 1461 * c + r3 := by omega
  have e5 : 0 ≤ r3 ∧ r3 ≤ 1460 := by omega
  clear hc h3
  have d1 : 0 ≤ d ∧ d ≤ 3 := by omega
  have d2 : 0 ≤ r3 - 365 * d ∧ (r3 - 365 * d ≤ 364 ∨ d = 3) := by omega
  clear hd
  refine ⟨b1.1, b1.2, c1.1, c1.2, d1.1, d1.2, by omega, d2.1, e5.2, d2.2, ?_⟩
  omega
theorem yOf_spec (n : Int) : dby (yOf n) < n ∧ n ≤ dby (yOf n + 1) := by
  obtain ⟨b1, b2, c1, c2, d1, d2, e, f, g, h, k⟩ := parts n _ _ _ _ _ _ _ rfl rfl rfl rfl rfl rfl rfl
  have hy : yOf n = 1 + 400 * ((n - 1) / 146097) + 100 * min ((n - 1) % 146097 / 36524) 3 + 4 * (((n - 1) % 146097 - min ((n - 1) % 146097 / 36524) 3 * 36524) / 1461) + min (((n - 1) % 146097 - min ((n - 1) % 146097 / 36524) 3 * 36524) % 1461 / 365) 3 := rfl
  rw [dby_succ, hy]
  generalize (n - 1) / 146097 = a at *
  generalize min ((n - 1) % 146097 / 36524) 3 = b at *
  generalize ((n - 1) % 146097 - b * 36524) / 1461 = c at *
  generalize ((n - 1) % 146097 - b * 36524) % 1461 = r3 at *
  generalize min (r3 / 365) 3 = d at *
  clear hy
  have hd := dby_at a b c d b1 b2 c1 c2 d1 d2
  have hl := lp_01 (1 + 400 * a + 100 * b + 4 * c + d)
  rw [hd]
  refine ⟨by omega, ?_⟩
  rcases h with h | h
  · omega
  · subst h
    rcases k with k | k
    · omega
    · have := lp_at a b c b1 b2 c1 c2 k
      omega
theorem yOf_bd (n : Int) (h1 : 1 ≤ n) (h2 : n ≤ 3652059) : 1 ≤ yOf n ∧ yOf n ≤ 9999 := by
  have ⟨a, b⟩ := yOf_spec n
  constructor
  · by_cases c : 1 ≤ yOf n
    · exact c
    · have := dby_mono (yOf n + 1) 1 (by omega); rw [dby_one] at this; omega
  · by_cases c : yOf n ≤ 9999
    · exact c
    · have := dby_mono 10000 (yOf n) (by omega); rw [dby_top] at this; omega
theorem mo_bd (l r : Int) : 1 ≤ mo l r ∧ mo l r ≤ 12 := by
  unfold mo; repeat (first | omega | split)
theorem mo_spec (y r : Int) (h0 : 0 ≤ r) (h1 : r < 365 + lp y) : cum y (mo (lp y) r) ≤ r ∧ r < cum y (mo (lp y) r + 1) := by
  have hl := lp_01 y
  unfold mo
  by_cases c1 : r < 31
  · rw [if_pos c1]; simp [cum]; omega
  rw [if_neg c1]
  by_cases c2 : r < 59 + lp y
  · rw [if_pos c2]; simp [cum]; omega
  rw [if_neg c2]
  by_cases c3 : r < 90 + lp y
  · rw [if_pos c3]; simp [cum]; omega
  rw [if_neg c3]
  by_cases c4 : r < 120 + lp y
  · rw [if_pos c4]; simp [cum]; omega
  rw [if_neg c4]
  by_cases c5 : r < 151 + lp y
  · rw [if_pos c5]; simp [cum]; omega
  rw [if_neg c5]
  by_cases c6 : r < 181 + lp y
  · rw [if_pos c6]; simp [cum]; omega
  rw [if_neg c6]
  by_cases c7 : r < 212 + lp y
  · rw [if_pos c7]; simp [cum]; omega
  rw [if_neg c7]
  by_cases c8 : r < 243 + lp y
  · rw [if_pos c8]; simp [cum]; omega
  rw [if_neg c8]
  by_cases c9 : r < 273 + lp y
  · rw [if_pos c9]; simp [cum]; omega
  rw [if_neg c9]
  by_cases c10 : r < 304 + lp y
  · rw [if_pos c10]; simp [cum]; omega
  rw [if_neg c10]
  by_cases c11 : r < 334 + lp y
  · rw [if_pos c11]; simp [cum]; omega
  rw [if_neg c11]
  simp [cum]; omega

/-- A day: its number, year, month and day of the month. -/
structure Day (n y m d : Int) : Prop where
  y1 : 1 ≤ y
  y2 : y ≤ 9999
  m1 : 1 ≤ m
  m2 : m ≤ 12
  d1 : 1 ≤ d
  d2 : d ≤ len y m
  eq : num y m d = n

theorem day_of (n : Int) (h1 : 1 ≤ n) (h2 : n ≤ 3652059) : Day n (yOf n) (mOf n) (dOf n) := by
  have ⟨a, b⟩ := yOf_spec n
  have ⟨c, d⟩ := yOf_bd n h1 h2
  rw [dby_succ] at b
  have ⟨e, f⟩ := mo_bd (lp (yOf n)) (n - 1 - dby (yOf n))
  have ⟨g, h⟩ := mo_spec (yOf n) (n - 1 - dby (yOf n)) (by omega) (by omega)
  rw [cum_succ _ _ e f] at h
  refine ⟨c, d, e, f, ?_, ?_, ?_⟩
  · unfold dOf mOf; omega
  · unfold dOf mOf; omega
  · unfold num dOf; omega
theorem Day.bd {n y m d : Int} (h : Day n y m d) : 1 ≤ n ∧ n ≤ 3652059 := by
  have e := h.eq
  unfold num at e
  have a := dby_bd y h.y1 (by have := h.y2; omega)
  have b := cum_bd y m h.m1 (by have := h.m2; omega)
  have c := cum_succ y m h.m1 h.m2
  have d := cum_mono y (m + 1) 13 (by have := h.m1; omega) (by have := h.m2; omega) (by omega)
  rw [cum_end] at d
  have f := dby_succ y
  have g := dby_mono (y + 1) 10000 (by have := h.y2; omega)
  rw [dby_top] at g
  have := h.d1; have := h.d2
  omega
/-- Where a day stands in its year. -/
theorem Day.in_year {n y m d : Int} (h : Day n y m d) : dby y < n ∧ n ≤ dby (y + 1) := by
  have e := h.eq
  unfold num at e
  have b := cum_bd y m h.m1 (by have := h.m2; omega)
  have c := cum_succ y m h.m1 h.m2
  have d := cum_mono y (m + 1) 13 (by have := h.m1; omega) (by have := h.m2; omega) (by omega)
  rw [cum_end] at d
  have f := dby_succ y
  have := h.d1; have := h.d2
  omega
theorem Day.in_month {n y m d : Int} (h : Day n y m d) : dby y + cum y m < n ∧ n ≤ dby y + cum y (m + 1) := by
  have e := h.eq
  unfold num at e
  have c := cum_succ y m h.m1 h.m2
  have := h.d1; have := h.d2
  omega
theorem year_unique {n a b : Int} (h1 : dby a < n ∧ n ≤ dby (a + 1)) (h2 : dby b < n ∧ n ≤ dby (b + 1)) : a = b := by
  by_cases c : a < b
  · have := dby_mono (a + 1) b (by omega); omega
  · by_cases d : b < a
    · have := dby_mono (b + 1) a (by omega); omega
    · omega
/-- One number, one day. -/
theorem Day.unique {n y m d y' m' d' : Int} (h : Day n y m d) (k : Day n y' m' d') : y = y' ∧ m = m' ∧ d = d' := by
  have e : y = y' := year_unique h.in_year k.in_year
  subst e
  have a := h.in_month
  have b := k.in_month
  have f : m = m' := by
    by_cases c : m < m'
    · have := cum_mono y (m + 1) m' (by have := h.m1; omega) (by omega) (by have := k.m2; omega); omega
    · by_cases c' : m' < m
      · have := cum_mono y (m' + 1) m (by have := k.m1; omega) (by omega) (by have := h.m2; omega); omega
      · omega
  subst f
  have e1 := h.eq
  have e2 := k.eq
  unfold num at e1 e2
  exact ⟨rfl, rfl, by omega⟩
theorem Day.of_eq {n y m d : Int} (h : Day n y m d) : yOf n = y ∧ mOf n = m ∧ dOf n = d :=
  (day_of n h.bd.1 h.bd.2).unique h
theorem mayB_iff (y m d : Int) : mayB y m d = true ↔ (1 ≤ y ∧ y ≤ 9999 ∧ 1 ≤ d ∧ d ≤ len y m) := by unfold mayB; simp
theorem day_mk {y m d : Int} (h : mayB y m d = true) : Day (num y m d) y m d := by
  obtain ⟨a, b, c, e⟩ := (mayB_iff y m d).1 h
  have ⟨f, g⟩ := len_in (y := y) (m := m) (by omega)
  exact ⟨a, b, f, g, c, e, rfl⟩
theorem Day.may {n y m d : Int} (h : Day n y m d) : mayB y m d = true := (mayB_iff y m d).2 ⟨h.y1, h.y2, h.d1, h.d2⟩
theorem may_of (n : Int) (h1 : 1 ≤ n) (h2 : n ≤ 3652059) : mayB (yOf n) (mOf n) (dOf n) = true := (day_of n h1 h2).may
theorem num_of (n : Int) (h1 : 1 ≤ n) (h2 : n ≤ 3652059) : num (yOf n) (mOf n) (dOf n) = n := (day_of n h1 h2).eq

theorem wd_bd (n : Int) : 0 ≤ wd n ∧ wd n ≤ 6 := by unfold wd; omega

end Cal
end Go.Proofs.YtjcjchapfiokeaaDoor
