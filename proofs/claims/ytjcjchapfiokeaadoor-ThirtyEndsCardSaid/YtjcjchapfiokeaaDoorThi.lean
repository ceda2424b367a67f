/- Months of 30 days, plainly: the three ways' counts of days, and what holds of them; fractions in lowest terms. No program in sight. Conditions: none. -/
import Derived.Test.YtjcjchapfiokeaaDoorMon
namespace Go.Proofs.YtjcjchapfiokeaaDoor
namespace Thi
open Cal Mon
/-- Is a day a February's last one? -/
def fe (n : Int) : Bool := isEnd n && (mOf n == 2)
def base (a b : Int) : Int := 360 * (yOf b - yOf a) + 30 * (mOf b - mOf a)
def u1 (a : Int) (eom : Bool) : Int := if (eom && fe a) = true then 30 else dOf a
def u2 (a b : Int) (eom : Bool) : Int := if (eom && (fe a && fe b)) = true then 30 else dOf b
def usN (a b : Int) (eom : Bool) : Int := base a b + (if 30 ≤ u1 a eom then min (u2 a b eom) 30 else u2 a b eom) - min (u1 a eom) 30
def eN (a b : Int) : Int := base a b + min (dOf b) 30 - min (dOf a) 30
def i1 (a : Int) : Int := if isEnd a = true then 30 else dOf a
def i2 (b e : Int) : Int := if (isEnd b && !(b == e && mOf b == 2)) = true then 30 else dOf b
def isN (a b e : Int) : Int := base a b + i2 b e - i1 a
theorem d_bd {n : Int} (h1 : 1 ≤ n) (h2 : n ≤ 3652059) : 1 ≤ dOf n ∧ dOf n ≤ 31 ∧ (mOf n = 2 → dOf n ≤ 29) := by
  have h := day_of n h1 h2
  have hl := len_bd (yOf n) (mOf n) h.m1 h.m2
  have := h.d1; have := h.d2
  refine ⟨by omega, by omega, fun hm => ?_⟩
  have : len (yOf n) (mOf n) = 28 + lp (yOf n) := by unfold len; rw [if_pos hm]
  have := lp_01 (yOf n)
  omega
theorem fe_iff (n : Int) : fe n = true ↔ isEnd n = true ∧ mOf n = 2 := by unfold fe; rw [Bool.and_eq_true, beq_iff_eq]
theorem end_bd' {n : Int} (h1 : 1 ≤ n) (h2 : n ≤ 3652059) (h : isEnd n = true) : 28 ≤ dOf n ∧ (mOf n ≠ 2 → 30 ≤ dOf n) := by
  have hd := day_of n h1 h2
  have hl := len_bd (yOf n) (mOf n) hd.m1 hd.m2
  have he := (isEnd_iff n).1 h
  refine ⟨by omega, fun hm => ?_⟩
  rw [he]; unfold len; rw [if_neg hm]
  have := hd.m1; have := hd.m2
  split
  · omega
  · rw [if_pos (by omega)]; omega
theorem noend_bd {n : Int} (h1 : 1 ≤ n) (h2 : n ≤ 3652059) (h : isEnd n = false) : dOf n ≤ 30 := by
  have hd := day_of n h1 h2
  have hl := len_bd (yOf n) (mOf n) hd.m1 hd.m2
  have hn : dOf n ≠ len (yOf n) (mOf n) := fun e => by rw [(isEnd_iff n).2 e] at h; cases h
  have := hd.d2
  omega
/-- Of two days the earlier one: an earlier month, or an earlier day of the same month. -/
theorem order {a b : Int} (a1 : 1 ≤ a) (b2 : b ≤ 3652059) (h : a ≤ b) : (30 ≤ base a b) ∨ (yOf a = yOf b ∧ mOf a = mOf b ∧ base a b = 0 ∧ dOf a ≤ dOf b ∧ (a < b → dOf a < dOf b)) := by
  have da := day_of a a1 (by omega); have db := day_of b (by omega) b2
  have := da.m1; have := da.m2; have := db.m1; have := db.m2
  unfold base
  rcases Int.lt_or_eq_of_le h with h | h
  · rcases (lt_iff da db).1 h with h | ⟨h, h' | ⟨h', h''⟩⟩
    · left; omega
    · left; omega
    · right; exact ⟨h, h', by omega, by omega, fun _ => h''⟩
  · subst h; right; exact ⟨rfl, rfl, by omega, by omega, fun h => by omega⟩
theorem base_add (a b c : Int) : base a c = base a b + base b c := by unfold base; omega
theorem base_bd {a b : Int} (a1 : 1 ≤ a) (b2 : b ≤ 3652059) (h : a ≤ b) : 0 ≤ base a b ∧ base a b ≤ 3600000 := by
  refine ⟨by rcases order a1 b2 h with h | h <;> omega, ?_⟩
  have da := day_of a a1 (by omega); have db := day_of b (by omega) b2
  have := da.m1; have := da.m2; have := db.m1; have := db.m2; have := da.y1; have := db.y2
  unfold base; omega
theorem i2_zero {b : Int} (h1 : 1 ≤ b) : i2 b 0 = i1 b := by
  unfold i2 i1
  rw [show (b == 0) = false from beq_eq_false_iff_ne.2 (by omega)]
  simp
theorem i1_bd {n : Int} (h1 : 1 ≤ n) (h2 : n ≤ 3652059) : 1 ≤ i1 n ∧ i1 n ≤ 30 := by
  have := d_bd h1 h2
  unfold i1
  cases h : isEnd n
  · have := noend_bd h1 h2 h; simp; omega
  · simp
theorem i2_bd {n e : Int} (h1 : 1 ≤ n) (h2 : n ≤ 3652059) : 1 ≤ i2 n e ∧ i2 n e ≤ 31 := by
  have := d_bd h1 h2
  unfold i2
  split <;> omega
theorem eN_add (a b c : Int) : eN a c = eN a b + eN b c := by unfold eN; rw [base_add a b c]; omega
theorem isN_add {a b c : Int} (h1 : 1 ≤ b) : isN a c 0 = isN a b 0 + isN b c 0 := by unfold isN; rw [base_add a b c, i2_zero h1]; omega
theorem eN_nn {a b : Int} (a1 : 1 ≤ a) (b2 : b ≤ 3652059) (h : a ≤ b) : 0 ≤ eN a b := by
  have := d_bd a1 (by omega : a ≤ 3652059); have := d_bd (by omega : 1 ≤ b) b2
  unfold eN
  rcases order a1 b2 h with h | h <;> omega
theorem isN_nn {a b : Int} (a1 : 1 ≤ a) (b2 : b ≤ 3652059) (h : a ≤ b) : 0 ≤ isN a b 0 := by
  have ha := i1_bd a1 (by omega : a ≤ 3652059); have hb := i1_bd (by omega : 1 ≤ b) b2
  unfold isN
  rw [i2_zero (by omega)]
  rcases order a1 b2 h with g | ⟨g1, g2, g3, g4, g5⟩
  · omega
  · have : i1 a ≤ i1 b := by
      unfold i1
      cases ea : isEnd a <;> cases eb : isEnd b
      · simpa using g4
      · have := noend_bd a1 (by omega) ea; simpa using this
      · exfalso
        have h1 := (isEnd_iff a).1 ea
        have h2 := (day_of b (by omega) b2).d2
        rw [← g1, ← g2] at h2
        have : isEnd b = true := (isEnd_iff b).2 (by rw [← g1, ← g2]; omega)
        rw [this] at eb; cases eb
      · simp
    omega
theorem us_nn {a b : Int} {eom : Bool} (a1 : 1 ≤ a) (b2 : b ≤ 3652059) (h : a ≤ b) (c : Int) (hb : b ≤ c) (c2 : c ≤ 3652059) : usN a b eom ≤ usN a c eom := by
  have da := d_bd a1 (by omega : a ≤ 3652059); have db := d_bd (by omega : 1 ≤ b) b2; have dc := d_bd (by omega : 1 ≤ c) c2
  unfold usN
  rw [base_add a b c]
  rcases Int.lt_or_eq_of_le hb with hlt | rfl
  · rcases order (by omega : 1 ≤ b) c2 hb with g | ⟨g1, g2, g3, g4, g5⟩
    · by_cases hu : 30 ≤ u1 a eom
      · rw [if_pos hu, if_pos hu]
        have : 1 ≤ u2 a c eom := by unfold u2; split <;> omega
        omega
      · rw [if_neg hu, if_neg hu]
        have hf : (eom && fe a) = false := by
          unfold u1 at hu
          cases e : eom && fe a
          · rfl
          · rw [e] at hu; simp at hu
        have e2 : ∀ x, u2 a x eom = dOf x := by
          intro x; unfold u2
          rw [← Bool.and_assoc, hf]; simp
        rw [e2, e2]; omega
    · have hfb : fe b = false := by
        cases e : fe b
        · rfl
        · have h1 := (isEnd_iff b).1 ((fe_iff b).1 e).1
          have h2 := (day_of c (by omega) c2).d2
          rw [← g1, ← g2] at h2
          have := g5 hlt; omega
      have e2 : u2 a b eom = dOf b := by unfold u2; rw [hfb]; simp
      have e3 : dOf b ≤ u2 a c eom := by
        unfold u2
        split
        · rename_i hh
          simp only [Bool.and_eq_true] at hh
          have := (fe_iff c).1 hh.2.2
          have := db.2.2 (by omega)
          omega
        · exact g4
      rw [e2, g3]
      split <;> omega
  · have : base b b = 0 := by unfold base; omega
    omega
theorem us_self (a : Int) (eom : Bool) : usN a a eom = 0 := by
  unfold usN u1 u2 base
  cases h : fe a <;> cases eom <;> simp <;> omega
theorem us_nn0 {a b : Int} {eom : Bool} (a1 : 1 ≤ a) (b2 : b ≤ 3652059) (h : a ≤ b) : 0 ≤ usN a b eom := by
  have := us_nn (eom := eom) a1 (by omega : a ≤ 3652059) (Int.le_refl a) b h b2
  rw [us_self] at this; exact this
theorem e_self (a : Int) : eN a a = 0 := by unfold eN base; omega
theorem is_self {a : Int} (e : Int) (h1 : 1 ≤ a) (h2 : a ≤ 3652059) : max 0 (isN a a e) = 0 := by
  have := d_bd h1 h2
  have : i2 a e ≤ i1 a := by
    unfold i1 i2
    cases h : isEnd a
    · simp
    · simp only [Bool.true_and, if_true]
      split
      · omega
      · rename_i hh
        simp at hh
        omega
  have : base a a = 0 := by unfold base; omega
  unfold isN; omega
theorem u2_bd {a b : Int} {eom : Bool} (h1 : 1 ≤ b) (h2 : b ≤ 3652059) : 1 ≤ u2 a b eom ∧ u2 a b eom ≤ 31 := by
  have := d_bd h1 h2
  unfold u2; split <;> omega
theorem u1_bd {a : Int} {eom : Bool} (h1 : 1 ≤ a) (h2 : a ≤ 3652059) : 1 ≤ u1 a eom ∧ u1 a eom ≤ 31 := by
  have := d_bd h1 h2
  unfold u1; split <;> omega
theorem us_bd {a b : Int} {eom : Bool} (a1 : 1 ≤ a) (b2 : b ≤ 3652059) (h : a ≤ b) : usN a b eom ≤ 3600031 := by
  have := base_bd a1 b2 h; have := u1_bd (eom := eom) a1 (by omega : a ≤ 3652059); have := u2_bd (a := a) (eom := eom) (by omega : 1 ≤ b) b2
  unfold usN; split <;> omega
theorem e_bd {a b : Int} (a1 : 1 ≤ a) (b2 : b ≤ 3652059) (h : a ≤ b) : eN a b ≤ 3600031 := by
  have := base_bd a1 b2 h; have := d_bd a1 (by omega : a ≤ 3652059); have := d_bd (by omega : 1 ≤ b) b2
  unfold eN; omega
theorem is_bd {a b e : Int} (a1 : 1 ≤ a) (b2 : b ≤ 3652059) (h : a ≤ b) : -30 ≤ isN a b e ∧ isN a b e ≤ 3600031 := by
  have := base_bd a1 b2 h; have := i1_bd a1 (by omega : a ≤ 3652059); have := i2_bd (e := e) (by omega : 1 ≤ b) b2
  unfold isN; omega
/-- Both in no February, and at most the 30th. -/
theorem agree {a b e : Int} {eom : Bool} (a1 : 1 ≤ a) (b2 : b ≤ 3652059) (h : a ≤ b) (xa : dOf a ≤ 30) (xb : dOf b ≤ 30) (ma : mOf a ≠ 2) (mb : mOf b ≠ 2) : usN a b eom = eN a b ∧ isN a b e = eN a b := by
  have fa : fe a = false := by
    cases h : fe a
    · rfl
    · exact absurd ((fe_iff a).1 h).2 ma
  have i1' : i1 a = dOf a := by
    unfold i1; split
    · rename_i h; have := (end_bd' a1 (by omega) h).2 ma; omega
    · rfl
  have i2' : i2 b e = dOf b := by
    unfold i2
    rw [show (mOf b == 2) = false from beq_eq_false_iff_ne.2 mb]
    simp only [Bool.and_false, Bool.not_false, Bool.and_true]
    split
    · rename_i h; have := (end_bd' (by omega) b2 h).2 mb; omega
    · rfl
  have v1 : u1 a eom = dOf a := by unfold u1; rw [fa]; simp
  have v2 : u2 a b eom = dOf b := by unfold u2; rw [fa]; simp
  unfold usN eN isN
  rw [i1', i2', v1, v2]
  constructor
  · split <;> omega
  · omega
/-- Both at most the 27th. -/
theorem plain {a b e : Int} {eom : Bool} (a1 : 1 ≤ a) (a2 : a ≤ 3652059) (b1 : 1 ≤ b) (b2 : b ≤ 3652059) (xa : dOf a ≤ 27) (hd : dOf b = dOf a) : usN a b eom = base a b ∧ eN a b = base a b ∧ isN a b e = base a b := by
  have na : ∀ n, 1 ≤ n → n ≤ 3652059 → dOf n ≤ 27 → isEnd n = false := by
    intro n h1 h2 h
    cases e : isEnd n
    · rfl
    · have := (end_bd' h1 h2 e).1; omega
  have ia := na a a1 a2 xa; have ib := na b b1 b2 (by omega)
  have := d_bd a1 a2
  unfold usN eN isN u1 u2 i1 i2 fe
  rw [ia, ib, hd]
  simp only [Bool.false_and, Bool.and_false, Bool.false_eq_true, if_false]
  refine ⟨?_, by omega, by omega⟩
  rw [if_neg (by omega)]; omega
/-- From a month's end to a month's end. -/
theorem ends {a b : Int} (a1 : 1 ≤ a) (a2 : a ≤ 3652059) (b1 : 1 ≤ b) (b2 : b ≤ 3652059) (ea : isEnd a = true) (eb : isEnd b = true) : isN a b 0 = base a b ∧ (¬ (mOf a ≠ 2 ∧ mOf b = 2) → usN a b true = base a b) := by
  constructor
  · unfold isN; rw [i2_zero b1]; unfold i1; rw [ea, eb]; simp
  · intro h
    have xa := end_bd' a1 a2 ea; have xb := end_bd' b1 b2 eb
    have da := d_bd a1 a2; have db := d_bd b1 b2
    unfold usN u1 u2 fe
    rw [ea, eb]
    simp only [Bool.true_and, Bool.and_eq_true, beq_iff_eq]
    by_cases m1 : mOf a = 2
    · rw [if_pos m1, if_pos (by omega)]
      by_cases m2 : mOf b = 2
      · rw [if_pos ⟨m1, m2⟩]; omega
      · rw [if_neg (by simp [m2])]; have := xb.2 m2; omega
    · have m2 : mOf b ≠ 2 := fun e => h ⟨m1, e⟩
      have k1 := xa.2 m1; have k2 := xb.2 m2
      rw [if_neg m1, if_pos k1, if_neg (fun h => m1 h.1)]; omega
/-! Fractions in lowest terms. -/
def rN (n d : Nat) : Int := (n / Nat.gcd n d : Nat)
def rD (n d : Nat) : Int := (d / Nat.gcd n d : Nat)
theorem r_scale (k n d : Nat) (hk : 0 < k) : rN (k * n) (k * d) = rN n d ∧ rD (k * n) (k * d) = rD n d := by
  unfold rN rD
  rw [Nat.gcd_mul_left, Nat.mul_div_mul_left _ _ hk, Nat.mul_div_mul_left _ _ hk]
  exact ⟨rfl, rfl⟩
theorem r_div (n d : Nat) (hd : 0 < d) : ∃ g : Nat, 0 < g ∧ (n : Int) = rN n d * g ∧ (d : Int) = rD n d * g ∧ 0 < rD n d ∧ 0 ≤ rN n d := by
  have hg : 0 < Nat.gcd n d := Nat.gcd_pos_of_pos_right _ hd
  refine ⟨Nat.gcd n d, hg, ?_, ?_, ?_, ?_⟩
  · unfold rN; rw [← Int.natCast_mul, Nat.div_mul_cancel (Nat.gcd_dvd_left n d)]
  · unfold rD; rw [← Int.natCast_mul, Nat.div_mul_cancel (Nat.gcd_dvd_right n d)]
  · unfold rD; exact Int.ofNat_lt.2 (Nat.div_pos (Nat.le_of_dvd hd (Nat.gcd_dvd_right n d)) hg)
  · unfold rN; exact Int.natCast_nonneg _
end Thi
end Go.Proofs.YtjcjchapfiokeaaDoor
