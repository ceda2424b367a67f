/- Rules, plainly: of each year just one day, and no other one near it. Conditions: none. -/
import Derived.Test.YtjcjchapfiokeaaDoorRulL
namespace Go.Proofs.YtjcjchapfiokeaaDoor
namespace Rul
open Cal
/-- The program's question: should there be a day? -/
def must (kd mo da kk y n : Int) : Bool := if kd = 0 ∧ mo = 2 ∧ da = 29 then leapB y else if kd = 1 ∧ kk = 5 then pos n else true
theorem len_same (y mo : Int) (h : mo ≠ 2) : len y mo = len 2000 mo := by
  by_cases c : 1 ≤ mo ∧ mo ≤ 12
  · rcases month_cases c.1 c.2 with rfl | rfl | rfl | rfl | rfl | rfl | rfl | rfl | rfl | rfl | rfl | rfl
    all_goals first | exact absurd rfl h | simp [len]
  · rw [len_out y mo (by omega), len_out 2000 mo (by omega)]
theorem len_two (y : Int) : len y 2 = 28 + lp y := by simp [len]
theorem ba_must {kd mo da kk off sh fr to y : Int} (h : mayP kd mo da kk off sh fr to) (k3 : kd ≠ 3) (g1 : fr ≤ y) (g2 : y ≤ to) : pos (ba kd mo da kk off fr to y) = must kd mo da kk y (ba kd mo da kk off fr to y) := by
  obtain ⟨s1, s2, a1, a2, a3, h⟩ := h
  have y1 : 1 ≤ y := by omega
  have y2 : y ≤ 9999 := by omega
  rw [ba_in g1 g2]
  rcases h with ⟨rfl, m1, m2, d1, d2⟩ | ⟨rfl, q1, q2, m1, m2, d1, d2⟩ | ⟨rfl, m1, m2, d1, d2⟩ | ⟨rfl, o1, o2⟩
  · rw [show baK 0 mo da kk off y = numV y mo da from rfl]
    unfold must
    have t := len_two 2000
    have t' := len_two y
    have l0 : lp 2000 = 1 := by decide
    by_cases c : mo = 2 ∧ da = 29
    · obtain ⟨rfl, rfl⟩ := c
      rw [if_pos ⟨rfl, rfl, rfl⟩]
      cases hl : leapB y
      · rw [(numV_no (mayB_ff (by have := leapB_no hl; omega))).1]; rfl
      · have v : mayB y 2 29 = true := (mayB_iff _ _ _).2 ⟨y1, y2, by omega, by have := leapB_yes hl; omega⟩
        rw [(numV_yes v).1, pos_yes (by have := (day_mk v).bd; omega)]
    · rw [if_neg (by omega), if_neg (by omega)]
      have v : mayB y mo da = true := (mayB_iff _ _ _).2 ⟨y1, y2, d1, by
        by_cases e : mo = 2
        · subst e; have := lp_01 y; omega
        · rw [len_same y mo e]; exact d2⟩
      rw [(numV_yes v).1, pos_yes (by have := (day_mk v).bd; omega)]
  · rw [show baK 1 mo da kk off y = numV y mo (nthD y mo da kk) from rfl]
    unfold must
    rw [if_neg (by omega)]
    by_cases c : kk = 5
    · rw [if_pos ⟨rfl, c⟩]
    · rw [if_neg (by omega)]
      have en : nthD y mo da kk = (da - wd (num y mo 1)) % 7 + 7 * (kk - 1) + 1 := rfl
      have l := len_bd y mo m1 m2
      have v : mayB y mo (nthD y mo da kk) = true := (mayB_iff _ _ _).2 ⟨y1, y2, by omega, by omega⟩
      rw [(numV_yes v).1, pos_yes (by have := (day_mk v).bd; omega)]
  · rw [show baK 2 mo da kk off y = lastD y mo da from rfl]
    unfold must
    rw [if_neg (by omega), if_neg (by omega)]
    obtain ⟨k, _, _, _, e, v⟩ := last_day (da := da) y1 y2 m1 m2
    rw [e, pos_yes (by have := (day_mk v).bd; omega)]
  · exact absurd rfl k3
theorem mayP_plain {kd mo da kk off sh fr to : Int} (h : mayP kd mo da kk off sh fr to) : mayP kd mo da kk off 0 fr to := by
  obtain ⟨_, _, h⟩ := h
  exact ⟨by omega, by omega, h⟩
theorem ins_plain {kd mo da kk off sh fr to : Int} (h : mayP kd mo da kk off sh fr to) (z : Int) : ins kd mo da kk off 0 fr to z = ba kd mo da kk off fr to z := by
  have b := ba_bd h z
  unfold ins
  split
  · omega
  · rw [show shf (ba kd mo da kk off fr to z) 0 = ba kd mo da kk off fr to z by unfold shf; split <;> (try split) <;> simp_all]
    exact dayV_in (by omega) b.2
theorem plain_is {kd mo da kk off sh fr to y : Int} (h : mayP kd mo da kk off sh fr to) (h0 : ba kd mo da kk off fr to y ≠ 0) : isB kd mo da kk off 0 fr to (ba kd mo da kk off fr to y) = true := by
  have := (ins_is (mayP_plain h) (y := y) (by rw [ins_plain h]; exact h0)).1
  rwa [ins_plain h] at this
theorem near {a b z y mo D E : Int} (h : Day a z mo D) (k : Day b y mo E) (c : z < y) : a + 20 < b := by
  have i := h.in_month
  have j := k.in_month
  have d := dby_lt z y c
  have s := cum_succ z mo h.m1 h.m2
  have l := len_bd z mo h.m1 h.m2
  have e : cum z mo ≤ cum y mo + 1 := by
    have p := lp_01 z
    have q := lp_01 y
    rcases month_cases h.m1 h.m2 with rfl | rfl | rfl | rfl | rfl | rfl | rfl | rfl | rfl | rfl | rfl | rfl
    all_goals (simp [cum]; try omega)
  omega
theorem plain_not {kd mo da kk off sh fr to y m : Int} (h : mayP kd mo da kk off sh fr to) (k3 : kd ≠ 3) (h0 : ba kd mo da kk off fr to y ≠ 0) (c1 : ba kd mo da kk off fr to y - 20 ≤ m) (c2 : m ≤ ba kd mo da kk off fr to y + 20) (c3 : m ≠ ba kd mo da kk off fr to y) (hd : dayB m = true) : isB kd mo da kk off 0 fr to m = false := by
  refine isB_no fun x _ _ hx => ?_
  rw [ins_plain h] at hx
  have m0 : m ≠ 0 := by
    intro e
    rw [e] at hd
    cases hd
  obtain ⟨D, d, _⟩ := ba_day h h0 k3
  obtain ⟨E, e, _⟩ := ba_day h (y := x) (by rw [hx]; exact m0) k3
  rw [hx] at e
  by_cases a : x = y
  · subst a; exact c3 hx.symm
  · by_cases b : x < y
    · have := near e d b; omega
    · have := near d e (by omega); omega
end Rul
end Go.Proofs.YtjcjchapfiokeaaDoor
