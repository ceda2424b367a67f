/- Numbers of any size, plainly, by parts of four digits, the lowest first. No program in sight. Conditions: none. -/
namespace Go.Proofs.YtjcjchapfiokeaaDoor
set_option linter.unusedVariables false
/-- Parts of four digits, the lowest first, the highest not 0. -/
def dg (n : Nat) : List Int := if h : n = 0 then [] else ((n % 10000 : Nat) : Int) :: dg (n / 10000)
termination_by n
decreasing_by omega
theorem dg_zero : dg 0 = [] := by rw [dg]; simp
theorem dg_pos {n : Nat} (h : 0 < n) : dg n = ((n % 10000 : Nat) : Int) :: dg (n / 10000) := by rw [dg, dif_neg (by omega)]
/-- What parts are, together. -/
def vl : List Int → Int
  | [] => 0
  | a :: l => a + 10000 * vl l
def PartL (l : List Int) : Prop := ∀ x ∈ l, 0 ≤ x ∧ x < 10000
theorem dg_parts (n : Nat) : PartL (dg n) := by
  induction n using Nat.strongRecOn with
  | _ n ih =>
    by_cases h : n = 0
    · subst h; rw [dg_zero]; intro x hx; cases hx
    · rw [dg_pos (by omega)]
      intro x hx
      rcases List.mem_cons.1 hx with e | e
      · omega
      · exact ih (n / 10000) (by omega) x e
theorem vl_dg (n : Nat) : vl (dg n) = n := by
  induction n using Nat.strongRecOn with
  | _ n ih =>
    by_cases h : n = 0
    · subst h; rw [dg_zero]; rfl
    · rw [dg_pos (by omega), vl, ih (n / 10000) (by omega)]; omega
theorem dg_at (n i : Nat) : (dg n).getD i 0 = ((n / 10000 ^ i % 10000 : Nat) : Int) := by
  induction i generalizing n with
  | zero =>
    by_cases h : n = 0
    · subst h; rw [dg_zero]; simp
    · rw [dg_pos (by omega)]; simp
  | succ i ih =>
    by_cases h : n = 0
    · subst h; rw [dg_zero]; simp
    · rw [dg_pos (by omega), List.getD_cons_succ, ih, Nat.div_div_eq_div_mul, Nat.pow_succ, Nat.mul_comm]
theorem div_step (n i : Nat) : n / 10000 ^ (i + 1) = n / 10000 ^ i / 10000 := by rw [Nat.div_div_eq_div_mul, Nat.pow_succ]
theorem dg_len (n i : Nat) : i < (dg n).length ↔ 0 < n / 10000 ^ i := by
  induction i generalizing n with
  | zero =>
    by_cases h : n = 0
    · subst h; rw [dg_zero]; simp
    · rw [dg_pos (by omega)]; simp; omega
  | succ i ih =>
    by_cases h : n = 0
    · subst h; rw [dg_zero]; simp
    · rw [dg_pos (by omega), List.length_cons, Nat.add_lt_add_iff_right, ih, Nat.div_div_eq_div_mul, Nat.pow_succ, Nat.mul_comm]
theorem dg_high {n i : Nat} (h : (dg n).length ≤ i) : n / 10000 ^ i = 0 := Nat.eq_zero_of_not_pos (mt (dg_len n i).2 (by omega))
theorem dg_le {n k : Nat} (h : n < 10000 ^ k) : (dg n).length ≤ k := by
  have := (dg_len n k)
  rw [Nat.div_eq_of_lt h] at this
  omega
theorem dg_lt (n : Nat) : n < 10000 ^ (dg n).length := by
  have h := dg_high (Nat.le_refl (dg n).length)
  have hp : 0 < 10000 ^ (dg n).length := Nat.pow_pos (by decide)
  rcases Nat.lt_or_ge n (10000 ^ (dg n).length) with h' | h'
  · exact h'
  · have := Nat.div_pos h' hp; omega
theorem dg_nil {n : Nat} : (dg n).length = 0 ↔ n = 0 := by
  have := dg_len n 0
  simp at this
  omega
theorem vl_append (l m : List Int) : vl (l ++ m) = vl l + 10000 ^ l.length * vl m := by
  induction l with
  | nil => simp [vl]
  | cons a l ih => simp only [List.cons_append, vl, ih, List.length_cons, Int.pow_succ]; grind
theorem vl_zeros (l : List Int) (h : ∀ x ∈ l, x = 0) : vl l = 0 := by
  induction l with
  | nil => rfl
  | cons a l ih => rw [vl, h a (by simp), ih fun x hx => h x (by simp [hx])]; rfl
theorem vl_bd (l : List Int) (h : PartL l) : 0 ≤ vl l ∧ vl l < 10000 ^ l.length := by
  induction l with
  | nil => simp [vl]
  | cons a l ih =>
    have h1 := h a (by simp)
    have h2 := ih fun x hx => h x (by simp [hx])
    simp only [vl, List.length_cons, Int.pow_succ]
    omega
theorem norm_dg (l : List Int) (h : PartL l) (hl : l ≠ [] → l.getD (l.length - 1) 0 ≠ 0) : l = dg (vl l).toNat := by
  induction l with
  | nil => rw [show (vl []).toNat = 0 from rfl, dg_zero]
  | cons a l ih =>
    have h1 := h a (by simp)
    have hp : PartL l := fun x hx => h x (by simp [hx])
    have h2 := vl_bd l hp
    have hh := hl (by simp)
    have ih' := ih hp (by
      intro hn
      have : l.length ≠ 0 := fun e => hn (List.eq_nil_of_length_eq_zero e)
      have e : (a :: l).length - 1 = (l.length - 1) + 1 := by simp; omega
      rw [e, List.getD_cons_succ] at hh; exact hh)
    have hpos : 0 < vl (a :: l) := by
      rw [vl]
      by_cases hn : l = []
      · subst hn
        simp at hh
        have : vl ([] : List Int) = 0 := rfl
        omega
      · have : (vl l).toNat ≠ 0 := by
          intro e
          rw [e, dg_zero] at ih'
          exact hn ih'
        omega
    rw [dg_pos (by omega)]
    rw [vl] at *
    congr 1
    · omega
    · rw [show (a + 10000 * vl l).toNat / 10000 = (vl l).toNat by omega]; exact ih'
/-- A row of parts without its noughts at the top. -/
theorem trim_dg (l : List Int) (h : PartL l) (k : Nat) (hk : k ≤ l.length) (hz : ∀ j, k ≤ j → j < l.length → l.getD j 0 = 0) (hn : k = 0 ∨ l.getD (k - 1) 0 ≠ 0) : l.take k = dg (vl l).toNat := by
  have hv : vl l = vl (l.take k) := by
    conv => lhs; rw [← List.take_append_drop k l]
    rw [vl_append, vl_zeros (l.drop k), Int.mul_zero, Int.add_zero]
    intro x hx
    obtain ⟨j, hj, rfl⟩ := List.getElem_of_mem hx
    rw [List.getElem_drop]
    have hj' : k + j < l.length := by simp at hj; omega
    have := hz (k + j) (by omega) hj'
    rwa [List.getD_eq_getElem?_getD, List.getElem?_eq_getElem hj'] at this
  rw [hv]
  refine norm_dg _ (fun x hx => h x (List.mem_of_mem_take hx)) fun hne => ?_
  have hk0 : k ≠ 0 := by rintro rfl; exact hne (by simp)
  rcases hn with h0 | h0
  · exact absurd h0 hk0
  · rw [List.length_take, Nat.min_eq_left hk]
    rw [List.getD_eq_getElem?_getD, List.getElem?_take_of_lt (by omega), ← List.getD_eq_getElem?_getD]; exact h0
theorem vl_set (l : List Int) (k : Nat) (x : Int) (hk : k < l.length) : vl (l.set k x) = vl l + 10000 ^ k * (x - l.getD k 0) := by
  induction l generalizing k with
  | nil => simp at hk
  | cons a l ih =>
    cases k with
    | zero => simp [vl]; omega
    | succ k =>
      rw [List.set_cons_succ, vl, vl, ih k (by simpa using hk), List.getD_cons_succ, Int.pow_succ]; grind
theorem parts_set {l : List Int} (h : PartL l) (k : Nat) (x : Int) (hx : 0 ≤ x ∧ x < 10000) : PartL (l.set k x) := by
  intro y hy
  rcases List.mem_or_eq_of_mem_set hy with e | e
  · exact h y e
  · rw [e]; exact hx
theorem parts_at {l : List Int} (h : PartL l) (k : Nat) : 0 ≤ l.getD k 0 ∧ l.getD k 0 < 10000 := by
  rw [List.getD_eq_getElem?_getD]
  by_cases hk : k < l.length
  · rw [List.getElem?_eq_getElem hk]; exact h _ (List.getElem_mem hk)
  · rw [List.getElem?_eq_none (by omega)]; simp
theorem parts_snoc {l : List Int} (h : PartL l) (x : Int) (hx : 0 ≤ x ∧ x < 10000) : PartL (l ++ [x]) := by
  intro y hy
  rcases List.mem_append.1 hy with e | e
  · exact h y e
  · rw [List.mem_singleton.1 e]; exact hx
/-! The division, digit by digit. -/
theorem quot_step (T a b r lo r' : Nat) (h : r = T % b) (hr : r' = a + 10000 * r) (hlo : lo = r' / b) (hb : 0 < b) : (a + 10000 * T) / b = lo + 10000 * (T / b) ∧ (a + 10000 * T) % b = r' % b := by
  have e : a + 10000 * T = r' + b * (10000 * (T / b)) := by
    have := Nat.div_add_mod T b
    rw [hr, h]
    have : 10000 * T = 10000 * (b * (T / b)) + 10000 * (T % b) := by rw [← Nat.mul_add, Nat.div_add_mod]
    rw [this, Nat.mul_left_comm]; omega
  rw [e, hlo]
  exact ⟨by rw [Nat.add_mul_div_left _ _ hb], by rw [Nat.add_mul_mod_self_left]⟩
end Go.Proofs.YtjcjchapfiokeaaDoor
