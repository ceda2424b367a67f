/- Rolls, plainly: what is found from a day on. Conditions: none. -/
import Derived.Test.YtlilffoflkkbdaaDoorRolC
namespace Go.Proofs.YtlilffoflkkbdaaDoor
theorem sk_at {c : CalP} {s : Int} : ∀ (j r : Nat) (m : Int), j < r → (∀ i : Nat, i < j → dayB (m + i * s) = true ∧ c.is (m + i * s) = false) → c.is (m + j * s) = true → sk c s r m = (m + j * s, 0)
  | 0, r + 1, m, _, _, h => by
    have e : m + ((0 : Nat) : Int) * s = m := by simp
    rw [e] at h ⊢
    exact sk_hit h
  | j + 1, r + 1, m, hj, ha, h => by
    have h0 := ha 0 (by omega)
    have e : m + ((0 : Nat) : Int) * s = m := by simp
    rw [e] at h0
    have es : ∀ i : Nat, m + s + (i : Int) * s = m + ((i + 1 : Nat) : Int) * s := fun i => by rw [Int.natCast_add, Int.add_mul]; simp; omega
    rw [sk_miss h0.1 h0.2, ← es]
    refine sk_at j r (m + s) (by omega) (fun i hi => ?_) ?_
    · rw [es]; exact ha (i + 1) (by omega)
    · rw [es]; exact h
theorem sk_none {c : CalP} {s : Int} : ∀ (r : Nat) (m : Int), (∀ i : Nat, i < r → dayB (m + i * s) = true ∧ c.is (m + i * s) = false) → sk c s r m = (0, 8)
  | 0, m, _ => rfl
  | r + 1, m, ha => by
    have h0 := ha 0 (by omega)
    have e : m + ((0 : Nat) : Int) * s = m := by simp
    rw [e] at h0
    have es : ∀ i : Nat, m + s + (i : Int) * s = m + ((i + 1 : Nat) : Int) * s := fun i => by rw [Int.natCast_add, Int.add_mul]; simp; omega
    rw [sk_miss h0.1 h0.2]
    exact sk_none r (m + s) (fun i hi => by rw [es]; exact ha (i + 1) (by omega))
theorem sk_ok {c : CalP} {s : Int} : ∀ (r : Nat) (m a : Int), sk c s r m = (a, 0) → ∃ j : Nat, j < r ∧ a = m + j * s ∧ c.is a = true ∧ ∀ i : Nat, i < j → dayB (m + i * s) = true ∧ c.is (m + i * s) = false
  | 0, m, a, h => by simp [sk] at h
  | r + 1, m, a, h => by
    rw [sk] at h
    have e : m + ((0 : Nat) : Int) * s = m := by simp
    by_cases hd : dayB m = true
    · rw [if_pos hd] at h
      by_cases hi : c.is m = true
      · rw [if_pos hi] at h
        have ha : m = a := (Prod.mk.inj h).1
        exact ⟨0, by omega, by rw [e]; exact ha.symm, by rw [← ha]; exact hi, fun i hi => absurd hi (by omega)⟩
      · rw [if_neg hi] at h
        obtain ⟨j, h1, h2, h3, h4⟩ := sk_ok r (m + s) a h
        have es : ∀ i : Nat, m + s + (i : Int) * s = m + ((i + 1 : Nat) : Int) * s := fun i => by rw [Int.natCast_add, Int.add_mul]; simp; omega
        refine ⟨j + 1, by omega, by rw [h2]; exact es j, h3, fun i hi' => ?_⟩
        rcases i with _ | i
        · rw [e]; exact ⟨hd, by simpa using hi⟩
        · rw [← es]; exact h4 i (by omega)
    · rw [if_neg hd] at h; simp at h
theorem sk_bad {c : CalP} {s : Int} : ∀ (r : Nat) (m a b : Int), sk c s r m = (a, b) → b ≠ 0 → a = 0 ∧ (b = 3 ∨ b = 8)
  | 0, m, a, b, h, hb => by simp [sk] at h; omega
  | r + 1, m, a, b, h, hb => by
    rw [sk] at h
    by_cases hd : dayB m = true
    · rw [if_pos hd] at h
      by_cases hi : c.is m = true
      · rw [if_pos hi] at h; exact absurd (Prod.mk.inj h).2.symm hb
      · rw [if_neg hi] at h; exact sk_bad r (m + s) a b h hb
    · rw [if_neg hd] at h
      have := Prod.mk.inj h
      omega
theorem sk_self {c : CalP} {s : Int} {r : Nat} {m : Int} (h : c.is m = true) : sk c s (r + 1) m = (m, 0) := sk_hit h
theorem sameM_self (n : Int) : sameM n n = true := by unfold sameM; simp
/-- A day of business stays. -/
theorem rl_self {c : CalP} {n k : Int} (h : c.is n = true) (k1 : 0 ≤ k) (k2 : k ≤ 4) : rl c n k = (n, 0) := by
  have hd := CalP.is_day h
  have a : sk c 1 61 n = (n, 0) := sk_self h
  have b : sk c (-1) 61 n = (n, 0) := sk_self h
  unfold rl
  rw [a, b, if_pos (dayB_in hd.1 hd.2)]
  have hk : k = 0 ∨ k = 1 ∨ k = 2 ∨ k = 3 ∨ k = 4 := by omega
  have hs : ¬ (((n, (0 : Int)) : Int × Int).2 = 0 ∧ sameM (n, (0 : Int)).1 n = false) := fun g => by have := g.2; rw [show sameM (n, (0 : Int)).1 n = true from sameM_self n] at this; cases this
  rcases hk with rfl | rfl | rfl | rfl | rfl
  · rfl
  · rfl
  · rw [if_neg (by decide), if_neg (by decide), if_pos rfl, if_neg hs]
  · rfl
  · rw [if_neg (by decide), if_neg (by decide), if_neg (by decide), if_neg (by decide), if_pos rfl, if_neg hs]
/-- What a roll gives is the day, or what the one side gives, or the other. -/
theorem rl_cases (c : CalP) (n k : Int) (k1 : 0 ≤ k) (k2 : k ≤ 4) : (k = 0 ∧ rl c n k = (if dayB n = true then (n, 0) else (0, 3))) ∨ rl c n k = sk c 1 61 n ∨ rl c n k = sk c (-1) 61 n := by
  unfold rl
  have hk : k = 0 ∨ k = 1 ∨ k = 2 ∨ k = 3 ∨ k = 4 := by omega
  rcases hk with rfl | rfl | rfl | rfl | rfl
  · exact Or.inl ⟨rfl, rfl⟩
  · exact Or.inr (Or.inl rfl)
  · rw [if_neg (by decide), if_neg (by decide), if_pos rfl]; split
    · exact Or.inr (Or.inr rfl)
    · exact Or.inr (Or.inl rfl)
  · exact Or.inr (Or.inr rfl)
  · rw [if_neg (by decide), if_neg (by decide), if_neg (by decide), if_neg (by decide), if_pos rfl]; split
    · exact Or.inr (Or.inl rfl)
    · exact Or.inr (Or.inr rfl)

/-! A calendar of which one day of the week alone isn't off. -/
def oneC (d : Int) : CalP := ⟨!decide (d = 0), !decide (d = 1), !decide (d = 2), !decide (d = 3), !decide (d = 4), !decide (d = 5), !decide (d = 6), none, 0, [], none, 0, []⟩
theorem oneC_is (d n : Int) (d1 : 0 ≤ d) (d2 : d ≤ 6) (h1 : 1 ≤ n) (h2 : n ≤ 3652059) : (oneC d).is n = decide (Cal.wd n = d) := by
  have hw := Cal.wd_bd n
  unfold CalP.is
  rw [dayB_in h1 h2]
  show (true && (!(oneC d).off (Cal.wd n) && (!([] : List Int).contains n && !([] : List R8).any (·.is n)))) = _
  have e : (oneC d).off (Cal.wd n) = !decide (Cal.wd n = d) := by
    generalize Cal.wd n = k at *
    have hk : k = 0 ∨ k = 1 ∨ k = 2 ∨ k = 3 ∨ k = 4 ∨ k = 5 ∨ k = 6 := by omega
    have hd : d = 0 ∨ d = 1 ∨ d = 2 ∨ d = 3 ∨ d = 4 ∨ d = 5 ∨ d = 6 := by omega
    rcases hk with rfl | rfl | rfl | rfl | rfl | rfl | rfl <;> rcases hd with rfl | rfl | rfl | rfl | rfl | rfl | rfl <;> rfl
  rw [e]
  simp
theorem one_up (d n : Int) (d1 : 0 ≤ d) (d2 : d ≤ 6) (h1 : 7 ≤ n) (h2 : n ≤ 3652052) : ∃ j : Int, 0 ≤ j ∧ j ≤ 6 ∧ sk (oneC d) 1 61 n = (n + j, 0) ∧ Cal.wd (n + j) = d := by
  have hw := Cal.wd_bd n
  refine ⟨(d - Cal.wd n) % 7, by omega, by omega, ?_, by unfold Cal.wd; unfold Cal.wd at hw; omega⟩
  have hj : (((d - Cal.wd n) % 7).toNat : Int) = (d - Cal.wd n) % 7 := by omega
  have := sk_at (c := oneC d) (s := 1) ((d - Cal.wd n) % 7).toNat 61 n (by omega) (fun i hi => ⟨dayB_in (by omega) (by omega), by
    rw [oneC_is d _ d1 d2 (by omega) (by omega)]
    refine decide_eq_false (fun h => ?_)
    unfold Cal.wd at h hi; omega⟩) (by
    rw [oneC_is d _ d1 d2 (by omega) (by omega)]
    refine decide_eq_true ?_
    rw [hj]; unfold Cal.wd; omega)
  rw [this, hj, Int.mul_one]
theorem one_dn (d n : Int) (d1 : 0 ≤ d) (d2 : d ≤ 6) (h1 : 7 ≤ n) (h2 : n ≤ 3652052) : ∃ j : Int, 0 ≤ j ∧ j ≤ 6 ∧ sk (oneC d) (-1) 61 n = (n - j, 0) ∧ Cal.wd (n - j) = d := by
  have hw := Cal.wd_bd n
  refine ⟨(Cal.wd n - d) % 7, by omega, by omega, ?_, by unfold Cal.wd; unfold Cal.wd at hw; omega⟩
  have hj : (((Cal.wd n - d) % 7).toNat : Int) = (Cal.wd n - d) % 7 := by omega
  have := sk_at (c := oneC d) (s := -1) ((Cal.wd n - d) % 7).toNat 61 n (by omega) (fun i hi => ⟨dayB_in (by omega) (by omega), by
    rw [oneC_is d _ d1 d2 (by omega) (by omega)]
    refine decide_eq_false (fun h => ?_)
    unfold Cal.wd at h hi; omega⟩) (by
    rw [oneC_is d _ d1 d2 (by omega) (by omega)]
    refine decide_eq_true ?_
    rw [hj]; unfold Cal.wd; omega)
  rw [this, hj]
  congr 1; omega
theorem oneC_ok (d : Int) : CalOk (oneC d) := ⟨(fun r h => by cases h), List.Pairwise.nil, Nat.zero_le _, Nat.zero_le _⟩
theorem oneC_in (d : Int) (w : World) : CalIn w (oneC d) := ⟨Or.inl rfl, Or.inl rfl⟩
/-- The calendar of which no day is off. -/
def noC : CalP := ⟨false, false, false, false, false, false, false, none, 0, [], none, 0, []⟩
theorem noC_is {n : Int} (h1 : 1 ≤ n) (h2 : n ≤ 3652059) : noC.is n = true := by
  have hw := Cal.wd_bd n
  unfold CalP.is
  rw [dayB_in h1 h2]
  show (true && (!noC.off (Cal.wd n) && (!([] : List Int).contains n && !([] : List R8).any (·.is n)))) = true
  have e : noC.off (Cal.wd n) = false := by
    generalize Cal.wd n = k at *
    have hk : k = 0 ∨ k = 1 ∨ k = 2 ∨ k = 3 ∨ k = 4 ∨ k = 5 ∨ k = 6 := by omega
    rcases hk with rfl | rfl | rfl | rfl | rfl | rfl | rfl <;> rfl
  rw [e]; simp
theorem noC_ok : CalOk noC := ⟨(fun r h => by cases h), List.Pairwise.nil, Nat.zero_le _, Nat.zero_le _⟩
theorem noC_in (w : World) : CalIn w noC := ⟨Or.inl rfl, Or.inl rfl⟩
end Go.Proofs.YtlilffoflkkbdaaDoor
