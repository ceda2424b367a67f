/- Plain: days as texts, byte by byte: what is shown, what is read, and how texts lie to each other. No Go in it. Conditions: none. -/
import Derived.Test.YtmaocplnikijnaaDoorCivF
import Derived.Test.YtmaocplnikijnaaDoorCalMore
namespace Go.Proofs.YtmaocplnikijnaaDoor.Iso
open Go.Op

def dg (n : Int) : UInt8 := UInt8.ofNat (48 + n % 10).toNat
theorem dg_nat (n : Int) : ((dg n).toNat : Int) = 48 + n % 10 := by
  unfold dg; rw [UInt8.toNat_ofNat']; omega
theorem dg_mod (n : Int) : dg (n % 10) = dg n := by unfold dg; rw [show n % 10 % 10 = n % 10 from by omega]
def digs : Nat → Int → List UInt8
  | 0, _ => []
  | k + 1, n => digs k (n / 10) ++ [dg n]
theorem digs_length : ∀ (k : Nat) (n : Int), (digs k n).length = k
  | 0, _ => rfl
  | k + 1, n => by rw [digs, List.length_append, digs_length k]; rfl
def text (y m d : Int) : List UInt8 := digs 4 y ++ 45 :: (digs 2 m ++ 45 :: digs 2 d)
theorem text_eq (y m d : Int) : text y m d = [dg (y / 10 / 10 / 10), dg (y / 10 / 10), dg (y / 10), dg y, 45, dg (m / 10), dg m, 45, dg (d / 10), dg d] := rfl
theorem text_length (y m d : Int) : (text y m d).length = 10 := rfl

/-- A text's byte. -/
def ch (l : List UInt8) (i : Nat) : Int := ((l.getD i 0).toNat : Int)
/-- May a byte stand at a place? -/
def okC (i : Nat) (c : UInt8) : Bool := if i = 4 ∨ i = 7 then decide ((c.toNat : Int) = 45) else decide (48 ≤ (c.toNat : Int) ∧ (c.toNat : Int) ≤ 57)
def okAt (l : List UInt8) (i : Nat) : Bool := okC i (l.getD i 0)
def shB (l : List UInt8) : Bool := decide (l.length = 10) && (List.range 10).all fun i => okAt l i
def rY (l : List UInt8) : Int := 1000 * (ch l 0 - 48) + 100 * (ch l 1 - 48) + 10 * (ch l 2 - 48) + (ch l 3 - 48)
def rM (l : List UInt8) : Int := 10 * (ch l 5 - 48) + (ch l 6 - 48)
def rD (l : List UInt8) : Int := 10 * (ch l 8 - 48) + (ch l 9 - 48)
def rdV (l : List UInt8) : Int := if shB l = true then numV (rY l) (rM l) (rD l) else 0
def rdE (l : List UInt8) : Int := if shB l = true then numE (rY l) (rM l) (rD l) else 10

theorem sh_iff (l : List UInt8) : shB l = true ↔ (l.length = 10 ∧ ∀ i, i < 10 → okAt l i = true) := by unfold shB; rw [Bool.and_eq_true, decide_eq_true_iff, List.all_eq_true]; simp only [List.mem_range]
theorem ten {l : List UInt8} (h : l.length = 10) : ∃ a b c d e f g i j k : UInt8, l = [a, b, c, d, e, f, g, i, j, k] := by
  match l, h with
  | [a, b, c, d, e, f, g, i, j, k], _ => exact ⟨a, b, c, d, e, f, g, i, j, k, rfl⟩
theorem okC_dig {i : Nat} {c : UInt8} (h : ¬ (i = 4 ∨ i = 7)) : okC i c = decide (48 ≤ (c.toNat : Int) ∧ (c.toNat : Int) ≤ 57) := if_neg h
theorem okC_dash {i : Nat} {c : UInt8} (h : i = 4 ∨ i = 7) : okC i c = decide ((c.toNat : Int) = 45) := if_pos h
theorem okC_dg (i : Nat) (n : Int) (h : ¬ (i = 4 ∨ i = 7)) : okC i (dg n) = true := by
  rw [okC_dig h]; have := dg_nat n; exact decide_eq_true (by omega)
theorem text_sh (y m d : Int) : shB (text y m d) = true := by
  rw [sh_iff]
  refine ⟨rfl, fun i hi => ?_⟩
  have hk : i = 0 ∨ i = 1 ∨ i = 2 ∨ i = 3 ∨ i = 4 ∨ i = 5 ∨ i = 6 ∨ i = 7 ∨ i = 8 ∨ i = 9 := by omega
  rcases hk with rfl | rfl | rfl | rfl | rfl | rfl | rfl | rfl | rfl | rfl
  all_goals first | exact okC_dg _ _ (by omega) | rfl
theorem text_read (y m d : Int) (y1 : 0 ≤ y) (y2 : y ≤ 9999) (m1 : 0 ≤ m) (m2 : m ≤ 99) (d1 : 0 ≤ d) (d2 : d ≤ 99) : rY (text y m d) = y ∧ rM (text y m d) = m ∧ rD (text y m d) = d := by
  have a0 : ch (text y m d) 0 = 48 + y / 10 / 10 / 10 % 10 := dg_nat _
  have a1 : ch (text y m d) 1 = 48 + y / 10 / 10 % 10 := dg_nat _
  have a2 : ch (text y m d) 2 = 48 + y / 10 % 10 := dg_nat _
  have a3 : ch (text y m d) 3 = 48 + y % 10 := dg_nat _
  have a5 : ch (text y m d) 5 = 48 + m / 10 % 10 := dg_nat _
  have a6 : ch (text y m d) 6 = 48 + m % 10 := dg_nat _
  have a8 : ch (text y m d) 8 = 48 + d / 10 % 10 := dg_nat _
  have a9 : ch (text y m d) 9 = 48 + d % 10 := dg_nat _
  unfold rY rM rD
  rw [a0, a1, a2, a3, a5, a6, a8, a9]
  omega
theorem sh_dig {l : List UInt8} (h : shB l = true) (i : Nat) (hi : i < 10) (k : ¬ (i = 4 ∨ i = 7)) : 48 ≤ ch l i ∧ ch l i ≤ 57 := by
  have := ((sh_iff l).1 h).2 i hi
  unfold okAt at this
  rw [okC_dig k] at this
  exact of_decide_eq_true this
theorem sh_dash {l : List UInt8} (h : shB l = true) (i : Nat) (k : i = 4 ∨ i = 7) : ch l i = 45 := by
  have := ((sh_iff l).1 h).2 i (by omega)
  unfold okAt at this
  rw [okC_dash k] at this
  exact of_decide_eq_true this
theorem byte_eq {a b : UInt8} (h : (a.toNat : Int) = (b.toNat : Int)) : a = b := UInt8.toNat_inj.1 (by omega)
theorem read_bd {l : List UInt8} (h : shB l = true) : 0 ≤ rY l ∧ rY l ≤ 9999 ∧ 0 ≤ rM l ∧ rM l ≤ 99 ∧ 0 ≤ rD l ∧ rD l ≤ 99 := by
  have h0 := sh_dig h 0 (by omega) (by omega); have h1 := sh_dig h 1 (by omega) (by omega); have h2 := sh_dig h 2 (by omega) (by omega); have h3 := sh_dig h 3 (by omega) (by omega)
  have h5 := sh_dig h 5 (by omega) (by omega); have h6 := sh_dig h 6 (by omega) (by omega); have h8 := sh_dig h 8 (by omega) (by omega); have h9 := sh_dig h 9 (by omega) (by omega)
  unfold rY rM rD; omega
theorem read_text {l : List UInt8} (h : shB l = true) : text (rY l) (rM l) (rD l) = l := by
  have h0 := sh_dig h 0 (by omega) (by omega); have h1 := sh_dig h 1 (by omega) (by omega); have h2 := sh_dig h 2 (by omega) (by omega); have h3 := sh_dig h 3 (by omega) (by omega)
  have h5 := sh_dig h 5 (by omega) (by omega); have h6 := sh_dig h 6 (by omega) (by omega); have h8 := sh_dig h 8 (by omega) (by omega); have h9 := sh_dig h 9 (by omega) (by omega)
  have h4 := sh_dash h 4 (by omega); have h7 := sh_dash h 7 (by omega)
  obtain ⟨hl, _⟩ := (sh_iff l).1 h
  clear h
  obtain ⟨a, b, c, d, e, f, g, i, j, k, rfl⟩ := ten hl
  have q0 : ch [a, b, c, d, e, f, g, i, j, k] 0 = a.toNat := rfl
  have q1 : ch [a, b, c, d, e, f, g, i, j, k] 1 = b.toNat := rfl
  have q2 : ch [a, b, c, d, e, f, g, i, j, k] 2 = c.toNat := rfl
  have q3 : ch [a, b, c, d, e, f, g, i, j, k] 3 = d.toNat := rfl
  have q4 : ch [a, b, c, d, e, f, g, i, j, k] 4 = e.toNat := rfl
  have q5 : ch [a, b, c, d, e, f, g, i, j, k] 5 = f.toNat := rfl
  have q6 : ch [a, b, c, d, e, f, g, i, j, k] 6 = g.toNat := rfl
  have q7 : ch [a, b, c, d, e, f, g, i, j, k] 7 = i.toNat := rfl
  have q8 : ch [a, b, c, d, e, f, g, i, j, k] 8 = j.toNat := rfl
  have q9 : ch [a, b, c, d, e, f, g, i, j, k] 9 = k.toNat := rfl
  unfold rY rM rD
  rw [q0] at h0 ⊢; rw [q1] at h1 ⊢; rw [q2] at h2 ⊢; rw [q3] at h3 ⊢; rw [q4] at h4; rw [q5] at h5 ⊢; rw [q6] at h6 ⊢; rw [q7] at h7; rw [q8] at h8 ⊢; rw [q9] at h9 ⊢
  clear q0 q1 q2 q3 q4 q5 q6 q7 q8 q9
  rw [text_eq]
  have e4 : e = 45 := byte_eq (by rw [h4]; rfl)
  have e7 : i = 45 := byte_eq (by rw [h7]; rfl)
  rw [e4, e7]
  have w : ∀ (n : Int) (u : UInt8), 48 + n % 10 = u.toNat → dg n = u := fun n u hu => byte_eq (by rw [dg_nat]; exact hu)
  rw [w _ a (by omega), w _ b (by omega), w _ c (by omega), w _ d (by omega), w _ f (by omega), w _ g (by omega), w _ j (by omega), w _ k (by omega)]

theorem len_len (y m : Int) : Cal.len y m ≤ 31 := (Cal.len_nonneg y m).2
/-- What is shown is read. -/
theorem show_read (n : Int) (h1 : 1 ≤ n) (h2 : n ≤ 3652059) : rdE (text (Cal.yOf n) (Cal.mOf n) (Cal.dOf n)) = 0 ∧ rdV (text (Cal.yOf n) (Cal.mOf n) (Cal.dOf n)) = n := by
  have D := Cal.day_of n h1 h2
  have := len_len (Cal.yOf n) (Cal.mOf n)
  obtain ⟨a, b, c⟩ := text_read (Cal.yOf n) (Cal.mOf n) (Cal.dOf n) (by have := D.y1; omega) D.y2 (by have := D.m1; omega) (by have := D.m2; omega) (by have := D.d1; omega) (by have := D.d2; omega)
  unfold rdE rdV
  rw [if_pos (text_sh _ _ _), if_pos (text_sh _ _ _), a, b, c, (numV_yes D.may).1, (numV_yes D.may).2]
  exact ⟨rfl, D.eq⟩
/-- What is read is what is shown. -/
theorem read_show {l : List UInt8} (h : rdE l = 0) : 1 ≤ rdV l ∧ rdV l ≤ 3652059 ∧ text (Cal.yOf (rdV l)) (Cal.mOf (rdV l)) (Cal.dOf (rdV l)) = l := by
  unfold rdE at h
  by_cases hs : shB l = true
  · rw [if_pos hs] at h
    have hm : Cal.mayB (rY l) (rM l) (rD l) = true := by
      cases c : Cal.mayB (rY l) (rM l) (rD l)
      · rw [(numV_no c).2] at h; cases h
      · rfl
    have e : rdV l = Cal.num (rY l) (rM l) (rD l) := by unfold rdV; rw [if_pos hs, (numV_yes hm).1]
    have D := Cal.day_mk hm
    obtain ⟨o1, o2, o3⟩ := D.of_eq
    obtain ⟨b1, b2⟩ := D.bd
    rw [e, o1, o2, o3]
    exact ⟨b1, b2, read_text hs⟩
  · rw [if_neg hs] at h; cases h
theorem read_no {l : List UInt8} (h : rdE l ≠ 0) : rdV l = 0 := by
  unfold rdE at h
  unfold rdV
  by_cases hs : shB l = true
  · rw [if_pos hs] at h ⊢
    cases c : Cal.mayB (rY l) (rM l) (rD l)
    · exact (numV_no c).1
    · exact absurd (numV_yes c).2 h
  · rw [if_neg hs]
theorem rdE_cases (l : List UInt8) : rdE l = 0 ∨ rdE l = 3 ∨ rdE l = 10 := by
  unfold rdE
  by_cases hs : shB l = true
  · rw [if_pos hs]; rcases numE_cases (rY l) (rM l) (rD l) with h | h <;> simp [h]
  · rw [if_neg hs]; simp
theorem rdE_form (l : List UInt8) : rdE l = 10 ↔ shB l = false := by
  unfold rdE
  cases hs : shB l
  · simp
  · rcases numE_cases (rY l) (rM l) (rD l) with h | h <;> simp [h]

/-! The order of texts. -/
theorem dg_lt (x y : Int) : decide (dg x < dg y) = decide (x % 10 < y % 10) := by
  have a := dg_nat x; have b := dg_nat y
  rw [Bool.eq_iff_iff, decide_eq_true_iff, decide_eq_true_iff, UInt8.lt_iff_toNat_lt]; omega
theorem dg_inj (x y : Int) : dg x = dg y ↔ x % 10 = y % 10 := by
  have a := dg_nat x; have b := dg_nat y
  rw [← UInt8.toNat_inj]; omega
theorem digs_inj : ∀ (k : Nat) (x y : Int), 0 ≤ x → x < 10 ^ k → 0 ≤ y → y < 10 ^ k → digs k x = digs k y → x = y
  | 0, x, y, h1, h2, h3, h4, _ => by simp at h2 h4; omega
  | k + 1, x, y, h1, h2, h3, h4, h => by
    rw [Int.pow_succ] at h2 h4
    rw [digs, digs] at h
    obtain ⟨h5, h6⟩ := List.append_inj h (by rw [digs_length, digs_length])
    have e1 := digs_inj k (x / 10) (y / 10) (by omega) (by omega) (by omega) (by omega) h5
    have e2 := (dg_inj x y).1 (by simpa using h6)
    omega
theorem less_append : ∀ (a a' b b' : List UInt8), a.length = a'.length → bytesLess (a ++ b) (a' ++ b') = (bytesLess a a' || (a == a' && bytesLess b b'))
  | [], [], b, b', _ => by simp [bytesLess]
  | x :: a, y :: a', b, b', h => by
    simp only [List.cons_append, bytesLess]
    rw [less_append a a' b b' (by simpa using h)]
    by_cases e : x = y
    · subst e; simp
    · have : (x == y) = false := by simpa using e
      simp [this]
theorem beq_digs (k : Nat) (x y : Int) (h1 : 0 ≤ x) (h2 : x < 10 ^ k) (h3 : 0 ≤ y) (h4 : y < 10 ^ k) : (digs k x == digs k y) = decide (x = y) := by
  rw [Bool.eq_iff_iff, beq_iff_eq, decide_eq_true_iff]
  exact ⟨digs_inj k x y h1 h2 h3 h4, fun h => by rw [h]⟩
theorem less_one (a b : UInt8) : bytesLess [a] [b] = decide (a < b) := by simp [bytesLess]
theorem less_digs : ∀ (k : Nat) (x y : Int), 0 ≤ x → x < 10 ^ k → 0 ≤ y → y < 10 ^ k → bytesLess (digs k x) (digs k y) = decide (x < y)
  | 0, x, y, h1, h2, h3, h4 => by
    simp at h2 h4
    rw [decide_eq_false (by omega)]; rfl
  | k + 1, x, y, h1, h2, h3, h4 => by
    rw [Int.pow_succ] at h2 h4
    rw [digs, digs, less_append _ _ _ _ (by rw [digs_length, digs_length]), less_digs k (x / 10) (y / 10) (by omega) (by omega) (by omega) (by omega), beq_digs k (x / 10) (y / 10) (by omega) (by omega) (by omega) (by omega), less_one, dg_lt]
    rw [Bool.eq_iff_iff]
    simp only [Bool.or_eq_true, Bool.and_eq_true, decide_eq_true_iff]
    omega
theorem less_dash (a b : List UInt8) : bytesLess (45 :: a) (45 :: b) = bytesLess a b := by simp [bytesLess]
def head (y m : Int) : List UInt8 := digs 4 y ++ 45 :: (digs 2 m ++ [45])
theorem text_head (y m d : Int) : text y m d = head y m ++ digs 2 d := rfl
theorem take_head (y m d : Int) : (text y m d).take 8 = head y m := rfl
theorem head_length (y m : Int) : (head y m).length = 8 := rfl
theorem less_head (y m y' m' : Int) (y1 : 0 ≤ y) (y2 : y ≤ 9999) (m1 : 0 ≤ m) (m2 : m ≤ 99) (y3 : 0 ≤ y') (y4 : y' ≤ 9999) (m3 : 0 ≤ m') (m4 : m' ≤ 99) : bytesLess (head y m) (head y' m') = decide (y < y' ∨ y = y' ∧ m < m') := by
  unfold head
  rw [less_append _ _ _ _ (by rw [digs_length, digs_length]), less_dash, less_append _ _ _ _ (by rw [digs_length, digs_length]), less_digs 4 y y' y1 (by omega) y3 (by omega), beq_digs 4 y y' y1 (by omega) y3 (by omega), less_digs 2 m m' m1 (by omega) m3 (by omega)]
  rw [Bool.eq_iff_iff]
  simp [bytesLess]
theorem head_inj (y m y' m' : Int) (y1 : 0 ≤ y) (y2 : y ≤ 9999) (m1 : 0 ≤ m) (m2 : m ≤ 99) (y3 : 0 ≤ y') (y4 : y' ≤ 9999) (m3 : 0 ≤ m') (m4 : m' ≤ 99) : head y m = head y' m' ↔ (y = y' ∧ m = m') := by
  refine ⟨fun h => ?_, fun ⟨a, b⟩ => by rw [a, b]⟩
  unfold head at h
  obtain ⟨h1, h2⟩ := List.append_inj h (by rw [digs_length, digs_length])
  obtain ⟨h3, _⟩ := List.append_inj (List.cons.inj h2).2 (by rw [digs_length, digs_length])
  exact ⟨digs_inj 4 y y' y1 (by omega) y3 (by omega) h1, digs_inj 2 m m' m1 (by omega) m3 (by omega) h3⟩
theorem less_text (y m d y' m' d' : Int) (y1 : 0 ≤ y) (y2 : y ≤ 9999) (m1 : 0 ≤ m) (m2 : m ≤ 99) (d1 : 0 ≤ d) (d2 : d ≤ 99) (y3 : 0 ≤ y') (y4 : y' ≤ 9999) (m3 : 0 ≤ m') (m4 : m' ≤ 99) (d3 : 0 ≤ d') (d4 : d' ≤ 99) :
    bytesLess (text y m d) (text y' m' d') = decide (y < y' ∨ y = y' ∧ (m < m' ∨ m = m' ∧ d < d')) := by
  have e : (head y m == head y' m') = decide (y = y' ∧ m = m') := by rw [Bool.eq_iff_iff, beq_iff_eq, decide_eq_true_iff]; exact head_inj y m y' m' y1 y2 m1 m2 y3 y4 m3 m4
  rw [text_head, text_head, less_append _ _ _ _ (by rw [head_length, head_length]), less_head y m y' m' y1 y2 m1 m2 y3 y4 m3 m4, e, less_digs 2 d d' d1 (by omega) d3 (by omega)]
  rw [Bool.eq_iff_iff]
  simp only [Bool.or_eq_true, Bool.and_eq_true, decide_eq_true_iff]
  omega
theorem text_inj (y m d y' m' d' : Int) (y1 : 0 ≤ y) (y2 : y ≤ 9999) (m1 : 0 ≤ m) (m2 : m ≤ 99) (d1 : 0 ≤ d) (d2 : d ≤ 99) (y3 : 0 ≤ y') (y4 : y' ≤ 9999) (m3 : 0 ≤ m') (m4 : m' ≤ 99) (d3 : 0 ≤ d') (d4 : d' ≤ 99) :
    text y m d = text y' m' d' ↔ (y = y' ∧ m = m' ∧ d = d') := by
  refine ⟨fun h => ?_, fun ⟨a, b, c⟩ => by rw [a, b, c]⟩
  rw [text_head, text_head] at h
  obtain ⟨h1, h2⟩ := List.append_inj h (by rw [head_length, head_length])
  obtain ⟨a, b⟩ := (head_inj y m y' m' y1 y2 m1 m2 y3 y4 m3 m4).1 h1
  exact ⟨a, b, digs_inj 2 d d' d1 (by omega) d3 (by omega) h2⟩

/-- The text of a number. -/
def tx (n : Int) : List UInt8 := text (Cal.yOf n) (Cal.mOf n) (Cal.dOf n)
structure Bd (y m d : Int) : Prop where
  y1 : 0 ≤ y
  y2 : y ≤ 9999
  m1 : 0 ≤ m
  m2 : m ≤ 99
  d1 : 0 ≤ d
  d2 : d ≤ 99
theorem bd_of (n : Int) (h1 : 1 ≤ n) (h2 : n ≤ 3652059) : Bd (Cal.yOf n) (Cal.mOf n) (Cal.dOf n) := by
  have D := Cal.day_of n h1 h2
  have := len_len (Cal.yOf n) (Cal.mOf n)
  exact ⟨by have := D.y1; omega, D.y2, by have := D.m1; omega, by have := D.m2; omega, by have := D.d1; omega, by have := D.d2; omega⟩
theorem less_tx (n m : Int) (h1 : 1 ≤ n) (h2 : n ≤ 3652059) (h3 : 1 ≤ m) (h4 : m ≤ 3652059) : bytesLess (tx n) (tx m) = decide (n < m) := by
  have A := bd_of n h1 h2; have B := bd_of m h3 h4
  unfold tx
  rw [less_text _ _ _ _ _ _ A.y1 A.y2 A.m1 A.m2 A.d1 A.d2 B.y1 B.y2 B.m1 B.m2 B.d1 B.d2]
  exact decide_eq_decide.2 (Cal.lt_iff (Cal.day_of n h1 h2) (Cal.day_of m h3 h4)).symm
theorem tx_inj (n m : Int) (h1 : 1 ≤ n) (h2 : n ≤ 3652059) (h3 : 1 ≤ m) (h4 : m ≤ 3652059) : tx n = tx m ↔ n = m := by
  have A := bd_of n h1 h2; have B := bd_of m h3 h4
  unfold tx
  rw [text_inj _ _ _ _ _ _ A.y1 A.y2 A.m1 A.m2 A.d1 A.d2 B.y1 B.y2 B.m1 B.m2 B.d1 B.d2]
  exact (Cal.eq_iff (Cal.day_of n h1 h2) (Cal.day_of m h3 h4)).symm

/-! Another sign at a place. -/
theorem okAt_set (l : List UInt8) (i j : Nat) (c : UInt8) (hi : i < l.length) : okAt (l.set i c) j = if i = j then okC i c else okAt l j := by
  unfold okAt
  by_cases h : i = j
  · subst h; rw [if_pos rfl]; simp [List.getD, hi]
  · rw [if_neg h]; simp [List.getD, List.getElem?_set_ne h]
theorem sh_set {l : List UInt8} (h : shB l = true) (i : Nat) (c : UInt8) (hi : i < 10) : shB (l.set i c) = okC i c := by
  obtain ⟨h1, h2⟩ := (sh_iff l).1 h
  rw [Bool.eq_iff_iff, sh_iff]
  constructor
  · intro ⟨_, g⟩
    have := g i hi
    rwa [okAt_set l i i c (by omega), if_pos rfl] at this
  · intro g
    refine ⟨by simpa using h1, fun j hj => ?_⟩
    rw [okAt_set l i j c (by omega)]
    by_cases e : i = j
    · rw [if_pos e]; exact g
    · rw [if_neg e]; exact h2 j hj
/-- Two texts that are read as one day are one text. -/
theorem read_one {l k : List UInt8} (h : rdE l = 0) (g : rdE k = 0) (e : rdV l = rdV k) : l = k := by
  have a := (read_show h).2.2; have b := (read_show g).2.2
  rw [e] at a; exact a.symm.trans b
end Go.Proofs.YtmaocplnikijnaaDoor.Iso
