/- Rules, plainly: of which year and month a rule's day is, and which days are its own. Conditions: none. -/
import Derived.Test.YtjcjchapfiokeaaDoorRulG
namespace Go.Proofs.YtjcjchapfiokeaaDoor
namespace Rul
open Cal
theorem numV_ne {y m d : Int} (h : numV y m d ≠ 0) : mayB y m d = true ∧ numV y m d = num y m d := by
  cases c : mayB y m d
  · exact absurd (numV_no c).1 h
  · exact ⟨rfl, (numV_yes c).1⟩
theorem wd_num (y m d : Int) (f : Int) (hf : num y m 1 = f) : wd (num y m d) = (wd f + (d - 1)) % 7 := by
  have e := num_sub y m d 1
  rw [e, hf]; unfold wd; omega
/-- A rule's day of a year, of fixed days and of days of the week: a day of the month. -/
theorem ba_day {kd mo da kk off sh fr to y : Int} (h : mayP kd mo da kk off sh fr to) (h0 : ba kd mo da kk off fr to y ≠ 0) (k3 : kd ≠ 3) :
    ∃ D, Day (ba kd mo da kk off fr to y) y mo D ∧ (kd = 0 → D = da) ∧ (kd = 1 → wd (ba kd mo da kk off fr to y) = da ∧ (D - 1) / 7 = kk - 1) ∧ (kd = 2 → wd (ba kd mo da kk off fr to y) = da ∧ len y mo < D + 7) := by
  have g : fr ≤ y ∧ y ≤ to := by
    by_cases g : fr ≤ y ∧ y ≤ to
    · exact g
    · exact absurd (ba_out (by omega)) h0
  have g1 := g.1
  have g2 := g.2
  obtain ⟨s1, s2, a1, a2, a3, h⟩ := h
  have y1 : 1 ≤ y := by omega
  have y2 : y ≤ 9999 := by omega
  rw [ba_in g.1 g.2] at h0 ⊢
  rcases h with ⟨rfl, m1, m2, d1, d2⟩ | ⟨rfl, q1, q2, m1, m2, d1, d2⟩ | ⟨rfl, m1, m2, d1, d2⟩ | ⟨rfl, o1, o2⟩
  · obtain ⟨v, e⟩ := numV_ne (show numV y mo da ≠ 0 from h0)
    refine ⟨da, ?_, fun _ => rfl, fun c => by omega, fun c => by omega⟩
    rw [show baK 0 mo da kk off y = numV y mo da from rfl, e]; exact day_mk v
  · obtain ⟨v, e⟩ := numV_ne (show numV y mo (nthD y mo da kk) ≠ 0 from h0)
    have en : nthD y mo da kk = (da - wd (num y mo 1)) % 7 + 7 * (kk - 1) + 1 := rfl
    refine ⟨nthD y mo da kk, ?_, fun c => by omega, fun _ => ⟨?_, by omega⟩, fun c => by omega⟩
    · rw [show baK 1 mo da kk off y = numV y mo (nthD y mo da kk) from rfl, e]; exact day_mk v
    · rw [show baK 1 mo da kk off y = numV y mo (nthD y mo da kk) from rfl, e, wd_num y mo _ _ rfl]
      have := wd_bd (num y mo 1)
      omega
  · obtain ⟨k, k1, k2, ek, e, v⟩ := last_day (da := da) y1 y2 m1 m2
    refine ⟨len y mo - k, ?_, fun c => by omega, fun c => by omega, fun _ => ⟨?_, by omega⟩⟩
    · rw [show baK 2 mo da kk off y = lastD y mo da from rfl, e]; exact day_mk v
    · rw [show baK 2 mo da kk off y = lastD y mo da from rfl, e, wd_num y mo _ _ rfl]
      rw [wd_num y mo _ _ rfl] at ek
      have := wd_bd (num y mo 1)
      omega
  · exact absurd rfl k3
theorem ba_year {kd mo da kk off sh fr to y : Int} (h : mayP kd mo da kk off sh fr to) (h0 : ba kd mo da kk off fr to y ≠ 0) : dby y - 40 ≤ ba kd mo da kk off fr to y ∧ ba kd mo da kk off fr to y ≤ dby (y + 1) := by
  by_cases k3 : kd = 3
  · have g : fr ≤ y ∧ y ≤ to := by
      by_cases g : fr ≤ y ∧ y ≤ to
      · exact g
      · exact absurd (ba_out (by omega)) h0
    have g1 := g.1
    have g2 := g.2
    obtain ⟨s1, s2, a1, a2, a3, h⟩ := h
    have y1 : 1 ≤ y := by omega
    have y2 : y ≤ 9999 := by omega
    rw [ba_in g.1 g.2] at h0 ⊢
    subst k3
    rw [show baK 3 mo da kk off y = dayV (easV y + off) from rfl] at h0 ⊢
    have e := (eas_in y1 y2).1
    have r := Eas.range y
    have c3 : cum y 3 = 59 + lp y := by simp [cum]
    have a := Eas.april y
    have s := dby_succ y
    have n3 : num y 3 22 = dby y + cum y 3 + 22 := rfl
    have l := lp_01 y
    have q : 1 ≤ easV y + off ∧ easV y + off ≤ 3652059 := by
      by_cases q : 1 ≤ easV y + off ∧ easV y + off ≤ 3652059
      · exact q
      · exact absurd (dayV_out (by omega)) h0
    rw [dayV_in q.1 q.2, e]
    omega
  · obtain ⟨D, d, _⟩ := ba_day h h0 k3
    have := d.in_year
    omega
/-- A rule's shifted day is one of its days. -/
theorem ins_is {kd mo da kk off sh fr to y : Int} (h : mayP kd mo da kk off sh fr to) (h0 : ins kd mo da kk off sh fr to y ≠ 0) : isB kd mo da kk off sh fr to (ins kd mo da kk off sh fr to y) = true ∧ fr ≤ y ∧ y ≤ to := by
  have b0 : ba kd mo da kk off fr to y ≠ 0 := fun c => h0 (ins_no c)
  have g : fr ≤ y ∧ y ≤ to := by
    by_cases g : fr ≤ y ∧ y ≤ to
    · exact g
    · exact absurd (ba_out (by omega)) b0
  refine ⟨?_, g⟩
  have e := ins_some (sh := sh) b0
  have s := shf_bd (ba kd mo da kk off fr to y) sh
  have yr := ba_year h b0
  have q : 1 ≤ shf (ba kd mo da kk off fr to y) sh ∧ shf (ba kd mo da kk off fr to y) sh ≤ 3652059 := by
    by_cases q : 1 ≤ shf (ba kd mo da kk off fr to y) sh ∧ shf (ba kd mo da kk off fr to y) sh ≤ 3652059
    · exact q
    · exact absurd (e.trans (dayV_out (by omega))) h0
  rw [dayV_in q.1 q.2] at e
  obtain ⟨v, hv⟩ : ∃ v, ins kd mo da kk off sh fr to y = v := ⟨_, rfl⟩
  rw [hv] at e ⊢
  have sp := yOf_spec v
  refine isB_yes (z := y) (by omega) (by omega) ?_ ?_ hv
  · by_cases c : yOf v ≤ y + 1
    · omega
    · have m := dby_mono (y + 1 + 1) (yOf v) (by omega)
      have l := dby_lt (y + 1) (y + 1 + 1) (by omega)
      omega
  · by_cases c : y - 1 ≤ yOf v
    · omega
    · have m := dby_mono (yOf v + 1) (y - 1) (by omega)
      have l := dby_lt (y - 1) y (by omega)
      omega
end Rul
end Go.Proofs.YtjcjchapfiokeaaDoor
