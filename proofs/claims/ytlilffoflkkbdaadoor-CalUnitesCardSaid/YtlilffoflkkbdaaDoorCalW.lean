/- Weeks, plainly: how many days of business whole weeks have; a day that is told; a rule more; rules in another order. Conditions: none. -/
import Derived.Test.YtlilffoflkkbdaaDoorUniB
import Derived.Test.YtlilffoflkkbdaaDoorCalG
namespace Go.Proofs.YtlilffoflkkbdaaDoor
open Go.RowKit
set_option linter.unusedVariables false
/-- A week, without rules and days; and with one day told. -/
def wkA (o0 o1 o2 o3 o4 o5 o6 : Bool) : CalP := ⟨o0, o1, o2, o3, o4, o5, o6, none, 0, [], none, 0, []⟩
def wkB (o0 o1 o2 o3 o4 o5 o6 : Bool) (D : Option Addr) (cD : Nat) (m : Int) : CalP := ⟨o0, o1, o2, o3, o4, o5, o6, none, 0, [], D, cD, [m]⟩
theorem wkA_is (o0 o1 o2 o3 o4 o5 o6 : Bool) (n : Int) : (wkA o0 o1 o2 o3 o4 o5 o6).is n = (dayB n && !(wkA o0 o1 o2 o3 o4 o5 o6).off (Cal.wd n)) := by
  unfold CalP.is wkA
  simp
theorem wkB_is (o0 o1 o2 o3 o4 o5 o6 : Bool) (D : Option Addr) (cD : Nat) (m n : Int) : (wkB o0 o1 o2 o3 o4 o5 o6 D cD m).is n = ((wkA o0 o1 o2 o3 o4 o5 o6).is n && !(n == m)) := by
  have e : ([m] : List Int).contains n = (n == m) := by
    rw [Bool.eq_iff_iff, List.contains_iff_mem, List.mem_singleton, beq_iff_eq]
  unfold CalP.is
  show (dayB n && (!(wkA o0 o1 o2 o3 o4 o5 o6).off (Cal.wd n) && (!([m] : List Int).contains n && !([] : List R8).any (·.is n)))) = ((dayB n && (!(wkA o0 o1 o2 o3 o4 o5 o6).off (Cal.wd n) && (!([] : List Int).contains n && !([] : List R8).any (·.is n)))) && !(n == m))
  rw [e]
  cases dayB n <;> cases (wkA o0 o1 o2 o3 o4 o5 o6).off (Cal.wd n) <;> cases (n == m) <;> rfl
theorem wkA_ok (o0 o1 o2 o3 o4 o5 o6 : Bool) : CalOk (wkA o0 o1 o2 o3 o4 o5 o6) := ⟨(fun r h => by cases h), List.Pairwise.nil, Nat.zero_le _, Nat.zero_le _⟩
theorem wkB_ok (o0 o1 o2 o3 o4 o5 o6 : Bool) (D : Option Addr) (cD : Nat) (m : Int) : CalOk (wkB o0 o1 o2 o3 o4 o5 o6 D cD m) := ⟨(fun r h => by cases h), (show ([m] : List Int).Pairwise (· ≤ ·) by simp), Nat.zero_le _, (show 1 ≤ 1000000 by decide)⟩
theorem wkA_in (o0 o1 o2 o3 o4 o5 o6 : Bool) (w : World) : CalIn w (wkA o0 o1 o2 o3 o4 o5 o6) := ⟨Or.inl rfl, Or.inl rfl⟩
/-- How many days of a week aren't off. -/
def opn01 (b : Bool) : Int := if b then 0 else 1
def opens (c : CalP) : Nat → Int
  | 0 => 0
  | k + 1 => opens c k + opn01 (c.off k)
theorem opens_bd (c : CalP) : ∀ k : Nat, 0 ≤ opens c k ∧ opens c k ≤ k
  | 0 => ⟨Int.le_refl _, Int.le_refl _⟩
  | k + 1 => by
    have := opens_bd c k
    unfold opens opn01; split <;> omega
theorem opens7 (c : CalP) : opens c 7 = opn01 c.o0 + opn01 c.o1 + opn01 c.o2 + opn01 c.o3 + opn01 c.o4 + opn01 c.o5 + opn01 c.o6 := by
  simp only [opens]
  show 0 + opn01 c.o0 + opn01 c.o1 + opn01 c.o2 + opn01 c.o3 + opn01 c.o4 + opn01 c.o5 + opn01 c.o6 = _
  omega
theorem cnt_one (c : CalP) (hs : ∀ n, c.is n = (dayB n && !c.off (Cal.wd n))) (a : Int) (k : Nat) (h1 : 1 ≤ a + k) (h2 : a + k ≤ 3652059) : cnt c a (k + 1) = cnt c a k + opn01 (c.off (Cal.wd (a + k))) := by
  rw [cnt, hs, dayB_in h1 h2]
  unfold opn01
  cases c.off (Cal.wd (a + k)) <;> rfl
theorem cnt_week (c : CalP) (hs : ∀ n, c.is n = (dayB n && !c.off (Cal.wd n))) (a : Int) (k : Nat) (h1 : 1 ≤ a + k) (h2 : a + k + 6 ≤ 3652059) : cnt c a (k + 7) = cnt c a k + opens c 7 := by
  rw [show k + 7 = k + 6 + 1 from rfl, cnt_one c hs a (k + 6) (by omega) (by omega), show k + 6 = k + 5 + 1 from rfl, cnt_one c hs a (k + 5) (by omega) (by omega), show k + 5 = k + 4 + 1 from rfl, cnt_one c hs a (k + 4) (by omega) (by omega), show k + 4 = k + 3 + 1 from rfl, cnt_one c hs a (k + 3) (by omega) (by omega), show k + 3 = k + 2 + 1 from rfl, cnt_one c hs a (k + 2) (by omega) (by omega), show k + 2 = k + 1 + 1 from rfl, cnt_one c hs a (k + 1) (by omega) (by omega), cnt_one c hs a k (by omega) (by omega), opens7]
  have hb := Cal.wd_bd (a + k)
  have e1 : Cal.wd (a + (k + 1 : Nat)) = (Cal.wd (a + k) + 1) % 7 := by unfold Cal.wd; omega
  have e2 : Cal.wd (a + (k + 1 + 1 : Nat)) = (Cal.wd (a + k) + 2) % 7 := by unfold Cal.wd; omega
  have e3 : Cal.wd (a + (k + 2 + 1 : Nat)) = (Cal.wd (a + k) + 3) % 7 := by unfold Cal.wd; omega
  have e4 : Cal.wd (a + (k + 3 + 1 : Nat)) = (Cal.wd (a + k) + 4) % 7 := by unfold Cal.wd; omega
  have e5 : Cal.wd (a + (k + 4 + 1 : Nat)) = (Cal.wd (a + k) + 5) % 7 := by unfold Cal.wd; omega
  have e6 : Cal.wd (a + (k + 5 + 1 : Nat)) = (Cal.wd (a + k) + 6) % 7 := by unfold Cal.wd; omega
  rw [e1, e2, e3, e4, e5, e6]
  generalize Cal.wd (a + k) = r at *
  have hr : r = 0 ∨ r = 1 ∨ r = 2 ∨ r = 3 ∨ r = 4 ∨ r = 5 ∨ r = 6 := by omega
  have o0 : c.off 0 = c.o0 := rfl
  have o1 : c.off 1 = c.o1 := rfl
  have o2 : c.off 2 = c.o2 := rfl
  have o3 : c.off 3 = c.o3 := rfl
  have o4 : c.off 4 = c.o4 := rfl
  have o5 : c.off 5 = c.o5 := rfl
  have o6 : c.off 6 = c.o6 := rfl
  rcases hr with rfl | rfl | rfl | rfl | rfl | rfl | rfl <;> simp only [Int.reduceAdd, Int.reduceMod, o0, o1, o2, o3, o4, o5, o6] <;> omega
theorem cnt_weeks (c : CalP) (hs : ∀ n, c.is n = (dayB n && !c.off (Cal.wd n))) (a : Int) (h1 : 1 ≤ a) : ∀ k : Nat, a + 7 * k ≤ 3652060 → cnt c a (7 * k) = k * opens c 7
  | 0, _ => by simp [cnt]
  | k + 1, h => by
    rw [show 7 * (k + 1) = 7 * k + 7 by omega, cnt_week c hs a (7 * k) (by omega) (by omega), cnt_weeks c hs a h1 k (by omega)]
    have : ((k + 1 : Nat) : Int) * opens c 7 = k * opens c 7 + opens c 7 := by rw [Int.natCast_add, Int.add_mul]; simp
    omega
theorem cnt_told (c d : CalP) (m : Int) (h : ∀ n, d.is n = (c.is n && !(n == m))) (a : Int) : ∀ k : Nat, cnt d a k = cnt c a k - if (decide (a ≤ m) && (decide (m < a + k) && c.is m)) = true then 1 else 0
  | 0 => by
    by_cases h1 : a ≤ m
    · rw [decide_eq_false (show ¬ m < a + (0 : Nat) by simp; omega)]; simp [cnt]
    · rw [decide_eq_false h1]; simp [cnt]
  | k + 1 => by
    rw [cnt, cnt, cnt_told c d m h a k, h]
    by_cases e : a + (k : Int) = m
    · rw [decide_eq_true (show a ≤ m by omega), decide_eq_false (show ¬ m < a + (k : Int) by omega), decide_eq_true (show m < a + ((k + 1 : Nat) : Int) by omega), e]
      cases c.is m <;> simp
    · rw [show decide (m < a + ((k + 1 : Nat) : Int)) = decide (m < a + (k : Int)) by rw [decide_eq_decide]; omega]
      have : (a + (k : Int) == m) = false := beq_eq_false_iff_ne.2 e
      rw [this]
      cases c.is (a + k) <;> simp <;> omega
end Go.Proofs.YtlilffoflkkbdaaDoor
