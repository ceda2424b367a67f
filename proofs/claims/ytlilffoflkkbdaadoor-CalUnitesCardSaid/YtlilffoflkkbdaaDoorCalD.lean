/- The contracts of calendars, the document's: are there few rules and days, and may a calendar be? Conditions: none. -/
import Derived.Test.YtlilffoflkkbdaaDoorCalC
namespace Go.Proofs.YtlilffoflkkbdaaDoor
open Go.RowKit
set_option linter.unusedVariables false

theorem few_c (c : CalP) (w : World) : Calls Tryd.prog 18 #[.agg #[.bool c.o0, .bool c.o1, .bool c.o2, .bool c.o3, .bool c.o4, .bool c.o5, .bool c.o6, .slice c.A c.rs.length c.cR, .slice c.D c.ds.length c.cD]] w fun e w' => e = .returned (.bool c.few) ∧ Below w.heap.size w w' := by
  by_cases h1 : c.rs.length ≤ 12
  · by_cases h2 : c.ds.length ≤ 60
    · have e : c.few = true := by unfold CalP.few; rw [decide_eq_true h1, decide_eq_true h2]; rfl
      rw [e]; clear e
      have k1 : (c.rs.length : Int) ≤ 12 := by omega
      have k2 : (c.ds.length : Int) ≤ 60 := by omega
      go_enter Tryd.func18, Tryd.ntmps18
      go_wp2_with fail
      go_ret
      exact ⟨rfl, by repeat (first | assumption | exact Below.refl _ _ | (with_reducible refine Below.drew ?_) | (with_reducible refine below_drewN' ?_ _) | (with_reducible refine below_al ?_) | ((with_reducible refine below_set ?_ ?_); rotate_left; focus (first | (simp; done) | (simp; omega))))⟩
    · have e : c.few = false := by unfold CalP.few; rw [decide_eq_true h1, decide_eq_false h2]; rfl
      rw [e]; clear e
      have k1 : (c.rs.length : Int) ≤ 12 := by omega
      have k2 : decide ((c.ds.length : Int) ≤ 60) = false := decide_eq_false (by omega)
      go_enter Tryd.func18, Tryd.ntmps18
      go_wp2_with fail
      go_ret
      exact ⟨rfl, by repeat (first | assumption | exact Below.refl _ _ | (with_reducible refine Below.drew ?_) | (with_reducible refine below_drewN' ?_ _) | (with_reducible refine below_al ?_) | ((with_reducible refine below_set ?_ ?_); rotate_left; focus (first | (simp; done) | (simp; omega))))⟩
  · have e : c.few = false := by unfold CalP.few; rw [decide_eq_false h1]; rfl
    rw [e]; clear e
    have k1 : ¬ (c.rs.length : Int) ≤ 12 := by omega
    go_enter Tryd.func18, Tryd.ntmps18
    go_wp2_with fail
    go_ret
    exact ⟨rfl, by repeat (first | assumption | exact Below.refl _ _ | (with_reducible refine Below.drew ?_) | (with_reducible refine below_drewN' ?_ _) | (with_reducible refine below_al ?_) | ((with_reducible refine below_set ?_ ?_); rotate_left; focus (first | (simp; done) | (simp; omega))))⟩

def opn (c : CalP) : Nat → Bool
  | 0 => false
  | k + 1 => opn c k || !c.off k
theorem opn7 (c : CalP) : opn c 7 = c.open_ := by
  show (((((((false || !c.o0) || !c.o1) || !c.o2) || !c.o3) || !c.o4) || !c.o5) || !c.o6) = _
  unfold CalP.open_
  cases c.o0 <;> cases c.o1 <;> cases c.o2 <;> cases c.o3 <;> cases c.o4 <;> cases c.o5 <;> cases c.o6 <;> rfl
theorem off_at (c : CalP) (k : Nat) (h : k < 7) : (#[.bool c.o0, .bool c.o1, .bool c.o2, .bool c.o3, .bool c.o4, .bool c.o5, .bool c.o6, .slice c.A c.rs.length c.cR, .slice c.D c.ds.length c.cD] : Array Value)[k]? = some (.bool (c.off k)) := by
  have hk : k = 0 ∨ k = 1 ∨ k = 2 ∨ k = 3 ∨ k = 4 ∨ k = 5 ∨ k = 6 := by omega
  rcases hk with rfl | rfl | rfl | rfl | rfl | rfl | rfl <;> rfl
theorem ris_iff : ∀ (l : List Int), risB l = true ↔ ∀ j, 0 < j → j < l.length → l.getD (j - 1) 0 < l.getD j 0
  | [] => by simp [risB]
  | [a] => by
    simp only [risB, true_iff]
    intro j h1 h2; simp at h2; omega
  | a :: b :: l => by
    simp only [risB, Bool.and_eq_true, decide_eq_true_eq, ris_iff (b :: l)]
    constructor
    · rintro ⟨h1, h2⟩ j hj hl
      rcases j with _ | _ | j
      · omega
      · simpa using h1
      · have := h2 (j + 1) (by omega) (by simpa using hl)
        simpa using this
    · intro h
      refine ⟨by simpa using h 1 (by omega) (by simp), fun j hj hl => ?_⟩
      have := h (j + 1) (by omega) (by simpa using hl)
      rcases j with _ | j
      · omega
      · simpa using this
theorem all_iff {α : Type} [Inhabited α] (p : α → Bool) (zs : List α) : zs.all p = true ↔ ∀ j, j < zs.length → p zs[j]! = true := by
  rw [List.all_eq_true]
  constructor
  · intro h j hj; rw [getElem!_pos zs j hj]; exact h _ (List.getElem_mem hj)
  · intro h x hx
    obtain ⟨i, hi, rfl⟩ := List.getElem_of_mem hx
    have := h i hi; rwa [getElem!_pos zs i hi] at this
theorem dall_iff (p : Int → Bool) (zs : List Int) : zs.all p = true ↔ ∀ j, j < zs.length → p (zs.getD j 0) = true := by
  rw [List.all_eq_true]
  constructor
  · intro h j hj; rw [List.getD_eq_getElem?_getD, List.getElem?_eq_getElem hj]; exact h _ (List.getElem_mem hj)
  · intro h x hx
    obtain ⟨i, hi, rfl⟩ := List.getElem_of_mem hx
    have := h i hi; rwa [List.getD_eq_getElem?_getD, List.getElem?_eq_getElem hi] at this
namespace CalP
theorem may_no1 {c : CalP} (h : c.open_ = false) : c.may = false := by unfold CalP.may; rw [h]; rfl
theorem may_no2 {c : CalP} (h : ¬ c.rs.length ≤ 100) : c.may = false := by
  cases e : c.may
  · rfl
  · exact absurd (may_iff.1 e).2.1 h
theorem may_no3 {c : CalP} (h : ¬ c.ds.length ≤ 1000) : c.may = false := by
  cases e : c.may
  · rfl
  · exact absurd (may_iff.1 e).2.2.1 h
theorem may_no4 {c : CalP} {k : Nat} (hk : k < c.rs.length) (h : c.rs[k]!.may = false) : c.may = false := by
  cases e : c.may
  · rfl
  · have := (may_iff.1 e).2.2.2.1 c.rs[k]! (by rw [getElem!_pos c.rs k hk]; exact List.getElem_mem hk)
    rw [h] at this; cases this
theorem may_no5 {c : CalP} {k : Nat} (hk : k < c.ds.length) (h : dayB (c.ds.getD k 0) = false) : c.may = false := by
  cases e : c.may
  · rfl
  · have := (may_iff.1 e).2.2.2.2.1 (c.ds.getD k 0) (by rw [List.getD_eq_getElem?_getD, List.getElem?_eq_getElem hk]; exact List.getElem_mem hk)
    rw [h] at this; cases this
theorem may_no6 {c : CalP} {k : Nat} (h0 : 0 < k) (hk : k < c.ds.length) (h : c.ds.getD k 0 ≤ c.ds.getD (k - 1) 0) : c.may = false := by
  cases e : c.may
  · rfl
  · have := (ris_iff c.ds).1 (may_iff.1 e).2.2.2.2.2 k h0 hk; omega
theorem may_yes {c : CalP} (h1 : c.open_ = true) (h2 : c.rs.length ≤ 100) (h3 : c.ds.length ≤ 1000) (h4 : ∀ j, j < c.rs.length → c.rs[j]!.may = true) (h5 : ∀ j, j < c.ds.length → dayB (c.ds.getD j 0) = true) (h6 : ∀ j, 0 < j → j < c.ds.length → c.ds.getD (j - 1) 0 < c.ds.getD j 0) : c.may = true :=
  may_iff.2 ⟨h1, h2, h3, List.all_eq_true.1 ((all_iff R8.may c.rs).2 h4), List.all_eq_true.1 ((dall_iff dayB c.ds).2 h5), (ris_iff c.ds).2 h6⟩
end CalP
end Go.Proofs.YtlilffoflkkbdaaDoor
