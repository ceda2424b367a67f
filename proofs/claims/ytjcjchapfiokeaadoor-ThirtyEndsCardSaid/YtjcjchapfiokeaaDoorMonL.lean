/- The plain laws of months: no program in sight. Conditions: none. -/
import Derived.Test.YtjcjchapfiokeaaDoorMon
namespace Go.Proofs.YtjcjchapfiokeaaDoor
namespace Mon
open Cal

/-! ### ENDS -/
theorem end_of {n : Int} (h1 : 1 ≤ n) (h2 : n ≤ 3652059) : yOf (endV n) = yOf n ∧ mOf (endV n) = mOf n ∧ dOf (endV n) = len (yOf n) (mOf n) := (end_day h1 h2).of_eq
theorem end_bd {n : Int} (h1 : 1 ≤ n) (h2 : n ≤ 3652059) : n ≤ endV n ∧ endV n ≤ n + 30 ∧ 1 ≤ endV n ∧ endV n ≤ 3652059 := by
  have A := day_of n h1 h2
  have B := end_day h1 h2
  have a := A.eq; have b := B.eq; have c := B.bd
  have l := len_bd (yOf n) (mOf n) A.m1 A.m2
  have d1 := A.d1; have d2 := A.d2
  unfold num at a b
  omega
theorem end_isEnd {n : Int} (h1 : 1 ≤ n) (h2 : n ≤ 3652059) : isEnd (endV n) = true := by
  obtain ⟨a, b, c⟩ := end_of h1 h2
  rw [isEnd_iff, a, b, c]
theorem end_lastB {n : Int} (h1 : 1 ≤ n) (h2 : n ≤ 3652059) : lastB (endV n) = true := by
  obtain ⟨_, _, c, d⟩ := end_bd h1 h2
  rw [lastB_in c d]; exact end_isEnd h1 h2
theorem end_eq {n : Int} (h1 : 1 ≤ n) (h2 : n ≤ 3652059) : (n == endV n) = isEnd n := by
  have A := day_of n h1 h2
  have B := end_day h1 h2
  have a := A.eq; have b := B.eq
  unfold num at a b
  cases c : isEnd n
  · have : ¬ dOf n = len (yOf n) (mOf n) := fun g => by rw [(isEnd_iff n).2 g] at c; cases c
    exact beq_eq_false_iff_ne.2 (by omega)
  · have := (isEnd_iff n).1 c
    exact beq_iff_eq.2 (by omega)
theorem end_lt {n : Int} (h1 : 1 ≤ n) (h2 : n ≤ 3652059) (h3 : endV n ≠ 3652059) : endV n < 3652059 := by
  have B := (end_day h1 h2).bd
  omega
theorem first_next {x y m l : Int} (B : Day x y m l) (hl : l = len y m) (c : x < 3652059) : dOf (x + 1) = 1 := by
  by_cases h : m = 12
  · exact (next_year B hl h c).of_eq.2.2
  · exact (next_month B hl h).of_eq.2.2
theorem end_next {n : Int} (h1 : 1 ≤ n) (h2 : n ≤ 3652059) (h3 : endV n ≠ 3652059) : dOf (endV n + 1) = 1 := first_next (end_day h1 h2) rfl (end_lt h1 h2 h3)

/-! ### MOVES -/
theorem of_V {n k : Int} {eom : Bool} (h : okB n k = true) : yOf (V n k eom) = Y n k ∧ mOf (V n k eom) = N n k ∧ dOf (V n k eom) = D n k eom := (day h).of_eq
theorem V_bd {n k : Int} {eom : Bool} (h : okB n k = true) : 1 ≤ V n k eom ∧ V n k eom ≤ 3652059 := (day h).bd
theorem YN_M (n k : Int) : 12 * Y n k + N n k - 1 = M n k := by unfold Y N; omega
theorem M_V {n k : Int} {eom : Bool} (h : okB n k = true) (q : Int) : M (V n k eom) q = M n k + q := by
  obtain ⟨a, b, _⟩ := of_V (eom := eom) h
  have := YN_M n k
  unfold M at *
  rw [a, b]; omega
theorem M_add (n p q : Int) : M n (p + q) = M n p + q := by unfold M; omega
theorem D_false (n k : Int) : D n k false = min (dOf n) (len (Y n k) (N n k)) := by unfold D; exact if_neg (by simp)
theorem D_end {n : Int} (k : Int) (h : isEnd n = true) : D n k true = len (Y n k) (N n k) := by unfold D; exact if_pos (by rw [h]; rfl)
theorem D_noend {n : Int} (k : Int) (h : isEnd n = false) : D n k true = min (dOf n) (len (Y n k) (N n k)) := by unfold D; exact if_neg (by rw [h]; simp)
theorem okB_eq {n k n' k' : Int} (h1 : 1 ≤ n) (h2 : n ≤ 3652059) (h1' : 1 ≤ n') (h2' : n' ≤ 3652059) (h : M n k = M n' k') : okB n k = okB n' k' := by
  unfold okB
  rw [h]
  by_cases c : 12 ≤ M n' k' ∧ M n' k' ≤ 119999
  · rw [decide_eq_true (by omega), decide_eq_true (by omega)]
  · rw [decide_eq_false (by omega), decide_eq_false (by omega)]
theorem YN_eq {n k n' k' : Int} (h : M n k = M n' k') : Y n k = Y n' k' ∧ N n k = N n' k' := by unfold Y N; rw [h]; exact ⟨rfl, rfl⟩

/-! ### BACK -/
theorem back_ok {n p : Int} (h : okB n p = true) : okB (V n p false) (-p) = true := by
  obtain ⟨n1, n2, _, _⟩ := (ok_iff n p).1 h
  obtain ⟨v1, v2⟩ := V_bd (eom := false) h
  have A := day_of n n1 n2
  have y1 := A.y1; have y2 := A.y2; have m1 := A.m1; have m2 := A.m2
  have e := M_V (eom := false) h (-p)
  have : M n p = 12 * yOf n + mOf n - 1 + p := rfl
  exact (ok_iff _ _).2 ⟨v1, v2, by omega, by omega⟩
theorem back_YN {n p : Int} (h : okB n p = true) : Y (V n p false) (-p) = yOf n ∧ N (V n p false) (-p) = mOf n := by
  obtain ⟨n1, n2, _, _⟩ := (ok_iff n p).1 h
  have A := day_of n n1 n2
  have m1 := A.m1; have m2 := A.m2
  have e := M_V (eom := false) h (-p)
  have : M n p = 12 * yOf n + mOf n - 1 + p := rfl
  unfold Y N
  omega
theorem back_eq {n p : Int} (h : okB n p = true) : (V (V n p false) (-p) false == n) = (D n p false == dOf n) := by
  obtain ⟨n1, n2, _, _⟩ := (ok_iff n p).1 h
  have A := day_of n n1 n2
  have B := day (eom := false) (back_ok h)
  obtain ⟨a, b⟩ := back_YN h
  have d2 := A.d2
  have e : D (V n p false) (-p) false = min (D n p false) (len (yOf n) (mOf n)) := by
    rw [D_false, (of_V h).2.2, a, b]
  rw [a, b, e] at B
  by_cases c : D n p false = dOf n
  · rw [beq_iff_eq.2 c]
    refine beq_iff_eq.2 ((eq_iff B A).2 ⟨rfl, rfl, by omega⟩)
  · rw [beq_eq_false_iff_ne.2 c]
    refine beq_eq_false_iff_ne.2 fun g => c ?_
    have := ((eq_iff B A).1 g).2.2
    have := D_false n p
    omega
theorem two_E {n p : Int} (h : okB n p = true) (q : Int) : E (V n p false) q = E n (p + q) := by
  obtain ⟨n1, n2, _, _⟩ := (ok_iff n p).1 h
  obtain ⟨v1, v2⟩ := V_bd (eom := false) h
  unfold E
  rw [okB_eq v1 v2 n1 n2 (by rw [M_V h, M_add])]
theorem two_V {n p : Int} (h : okB n p = true) (q : Int) (g : D n p false = dOf n) : V (V n p false) q false = V n (p + q) false := by
  obtain ⟨n1, n2, _, _⟩ := (ok_iff n p).1 h
  obtain ⟨v1, v2⟩ := V_bd (eom := false) h
  have e : M (V n p false) q = M n (p + q) := by rw [M_V h, M_add]
  obtain ⟨a, b⟩ := YN_eq e
  have d : D (V n p false) q false = D n (p + q) false := by rw [D_false, D_false, (of_V h).2.2, g, a, b]
  have o := okB_eq v1 v2 n1 n2 e
  cases c : okB n (p + q)
  · rw [c] at o; rw [(V_no o).1, (V_no c).1]
  · rw [c] at o; rw [(V_yes o).1, (V_yes c).1, a, b, d]

/-! ### RISE -/
theorem E_cases (n k : Int) : (okB n k = true ∧ E n k = 0) ∨ (okB n k = false ∧ E n k = 3) := by
  cases h : okB n k
  · exact Or.inr ⟨rfl, (V_no (eom := false) h).2⟩
  · exact Or.inl ⟨rfl, (V_yes (eom := false) h).2⟩
theorem rise_end {n k : Int} (h : okB n k = true) : V n k false ≤ V n k true ∧ V n k true ≤ V n k false + 30 := by
  have A := (day (eom := false) h).eq
  have B := (day (eom := true) h).eq
  obtain ⟨n1, n2, _, _⟩ := (ok_iff n k).1 h
  obtain ⟨_, _, c, d⟩ := YN_bd h
  have l := len_bd (Y n k) (N n k) c d
  have d1 := (day_of n n1 n2).d1
  unfold num at A B
  have e := D_false n k
  cases x : isEnd n
  · have := D_noend k x; omega
  · have := D_end k x
    have := (D_bd (eom := false) h)
    omega
theorem lt_M {n k n' k' : Int} {e e' : Bool} (h : okB n k = true) (h' : okB n' k' = true) (g : M n k < M n' k') : V n k e < V n' k' e' := by
  have A := day (eom := e) h
  have B := day (eom := e') h'
  have a := YN_M n k
  have b := YN_M n' k'
  refine (lt_iff A B).2 ?_
  have := A.m1; have := A.m2; have := B.m1; have := B.m2
  omega
theorem rise_more {n k j : Int} (h : okB n k = true) (h' : okB n (k + 1 + j) = true) (hj : 0 ≤ j) : V n k false < V n (k + 1 + j) false :=
  lt_M h h' (by unfold M; omega)
theorem rise_day {n m k : Int} (h : okB n k = true) (h' : okB m k = true) (g : n ≤ m) : V n k false ≤ V m k false := by
  obtain ⟨n1, n2, _, _⟩ := (ok_iff n k).1 h
  obtain ⟨m1, m2, _, _⟩ := (ok_iff m k).1 h'
  by_cases e : n = m
  · subst e; exact Int.le_refl _
  have A := day_of n n1 n2
  have B := day_of m m1 m2
  have L := (lt_iff A B).1 (by omega)
  by_cases c : M n k < M m k
  · exact Int.le_of_lt (lt_M h h' c)
  · have a1 := A.m1; have a2 := A.m2; have b1 := B.m1; have b2 := B.m2
    have f : M n k = M m k ∧ dOf n < dOf m := by unfold M at *; omega
    obtain ⟨y, z⟩ := YN_eq f.1
    have P := (day (eom := false) h).eq
    have Q := (day (eom := false) h').eq
    rw [D_false, y, z] at P
    rw [D_false] at Q
    unfold num at P Q
    omega

/-! ### ERAS -/
theorem era_YN (n : Int) (h1 : 1 ≤ n) (h2 : n ≤ 3652059) : Y n 4800 = yOf n + 400 ∧ N n 4800 = mOf n := by
  have A := day_of n h1 h2
  have m1 := A.m1; have m2 := A.m2
  unfold Y N M; omega
theorem era_ok (n : Int) (h1 : 1 ≤ n) (h2 : n ≤ 3652059) : okB n 4800 = decide (n + 146097 ≤ 3652059) := by
  have A := day_of n h1 h2
  have m1 := A.m1; have m2 := A.m2; have y1 := A.y1; have y2 := A.y2
  have I := A.in_year
  have t := dby_era 9600 1
  have t' := dby_top
  simp only [Int.reduceAdd, Int.reduceMul] at t
  by_cases c : yOf n ≤ 9599
  · have := dby_mono (yOf n + 1) 9600 (by omega)
    rw [decide_eq_true (by omega)]
    exact (ok_iff _ _).2 ⟨h1, h2, by unfold M; omega, by unfold M; omega⟩
  · have := dby_mono 9600 (yOf n) (by omega)
    rw [decide_eq_false (by omega)]
    cases d : okB n 4800
    · rfl
    · have := (ok_iff _ _).1 d
      unfold M at this; omega
theorem era_V (n : Int) (h1 : 1 ≤ n) (h2 : n ≤ 3652059) (h : okB n 4800 = true) : V n 4800 false = n + 146097 := by
  have A := day_of n h1 h2
  obtain ⟨a, b⟩ := era_YN n h1 h2
  have d2 := A.d2
  have e : D n 4800 false = dOf n := by rw [D_false, a, b, len_era]; omega
  rw [(V_yes h).1, a, b, e, num_era, A.eq]
theorem year_YN (n : Int) (h1 : 1 ≤ n) (h2 : n ≤ 3652059) : Y n 12 = yOf n + 1 ∧ N n 12 = mOf n := by
  have A := day_of n h1 h2
  have m1 := A.m1; have m2 := A.m2
  unfold Y N M; omega
theorem year_short {n : Int} (h1 : 1 ≤ n) (h2 : n ≤ 3652059) (h : mOf n = 2 ∧ dOf n = 29) : D n 12 false = 28 := by
  have A := day_of n h1 h2
  obtain ⟨a, b⟩ := year_YN n h1 h2
  have d2 := A.d2
  have l : len (yOf n) 2 = 28 + lp (yOf n) := by simp [len]
  have l' : len (yOf n + 1) 2 = 28 + lp (yOf n + 1) := by simp [len]
  have e := lp_01 (yOf n)
  have f : lp (yOf n) = 1 → lp (yOf n + 1) = 0 := by
    intro g
    unfold lp at g ⊢
    split at g
    · rw [if_neg (by omega)]
    · cases g
  rw [h.1] at d2
  rw [D_false, a, b, h.1, h.2, l']
  omega
theorem year_plain {n : Int} (h1 : 1 ≤ n) (h2 : n ≤ 3652059) (h : ¬ (mOf n = 2 ∧ dOf n = 29)) : D n 12 false = dOf n := by
  have A := day_of n h1 h2
  obtain ⟨a, b⟩ := year_YN n h1 h2
  have d2 := A.d2
  have e := lp_01 (yOf n)
  have f := lp_01 (yOf n + 1)
  rw [D_false, a, b]
  unfold len at d2 ⊢
  by_cases c : mOf n = 2
  · rw [if_pos c] at d2 ⊢; omega
  · rw [if_neg c] at d2 ⊢; omega
theorem end_move {n k : Int} (h1 : 1 ≤ n) (h2 : n ≤ 3652059) (h : okB (endV n) k = true) : lastB (V (endV n) k true) = true := by
  obtain ⟨v1, v2⟩ := V_bd (eom := true) h
  obtain ⟨a, b, c⟩ := of_V (eom := true) h
  rw [lastB_in v1 v2, isEnd_iff, a, b, c]
  exact D_end k (end_isEnd h1 h2)
end Mon
end Go.Proofs.YtjcjchapfiokeaaDoor
