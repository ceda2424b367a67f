/- Unions of calendars, plainly: which may be, and which days are days of business. Conditions: none. -/
import Derived.Test.YtlilffoflkkbdaaDoorUniA
namespace Go.Proofs.YtlilffoflkkbdaaDoor
open Go.RowKit
set_option linter.unusedVariables false
theorem off_or {a b u : CalP} (h : UniOf a b u) (k : Int) : u.off k = (a.off k || b.off k) := by
  unfold CalP.off
  rw [h.h0, h.h1, h.h2, h.h3, h.h4, h.h5, h.h6]
  repeat (first | rfl | split)
theorem has_or {a b : List Int} (n : Int) : (uds a b).contains n = (a.contains n || b.contains n) := by
  rw [Bool.eq_iff_iff, Bool.or_eq_true, List.contains_iff_mem, List.contains_iff_mem, List.contains_iff_mem]
  exact (uds_law a b).2 n
theorem uni_is {a b u : CalP} (h : UniOf a b u) (n : Int) : u.is n = (a.is n && b.is n) := by
  unfold CalP.is
  rw [off_or h, h.hr, h.hd, has_or, List.any_append]
  cases dayB n <;> cases a.off (Cal.wd n) <;> cases b.off (Cal.wd n) <;> cases a.ds.contains n <;> cases b.ds.contains n <;> cases a.rs.any (·.is n) <;> cases b.rs.any (·.is n) <;> rfl
theorem ris_of : ∀ {l : List Int}, l.Pairwise (· < ·) → risB l = true
  | [], _ => rfl
  | [a], _ => rfl
  | a :: b :: l, h => by
    have h1 := (List.pairwise_cons.1 h).1 b (by simp)
    simp only [risB, Bool.and_eq_true, decide_eq_true_eq]
    exact ⟨h1, ris_of (List.pairwise_cons.1 h).2⟩
/-- Is any day of the week open in both? -/
def uopen (a b : CalP) : Bool := !((a.o0 || b.o0) && ((a.o1 || b.o1) && ((a.o2 || b.o2) && ((a.o3 || b.o3) && ((a.o4 || b.o4) && ((a.o5 || b.o5) && (a.o6 || b.o6)))))))
theorem uopen_comm (a b : CalP) : uopen a b = uopen b a := by
  unfold uopen
  rw [Bool.or_comm a.o0, Bool.or_comm a.o1, Bool.or_comm a.o2, Bool.or_comm a.o3, Bool.or_comm a.o4, Bool.or_comm a.o5, Bool.or_comm a.o6]
theorem uopen_self (a : CalP) : uopen a a = a.open_ := by
  unfold uopen CalP.open_
  simp only [Bool.or_self]
theorem few_len {c : CalP} (h : c.few = true) : c.rs.length ≤ 12 ∧ c.ds.length ≤ 60 := by
  unfold CalP.few at h
  rw [Bool.and_eq_true] at h
  exact ⟨of_decide_eq_true h.1, of_decide_eq_true h.2⟩
theorem uni_may {a b u : CalP} (h : UniOf a b u) (ha : a.may = true) (hb : b.may = true) (fa : a.few = true) (fb : b.few = true) : u.may = uopen a b := by
  have ho : u.open_ = uopen a b := by unfold CalP.open_ uopen; rw [h.h0, h.h1, h.h2, h.h3, h.h4, h.h5, h.h6]
  obtain ⟨_, _, _, a4, a5, _⟩ := CalP.may_iff.1 ha
  obtain ⟨_, _, _, b4, b5, _⟩ := CalP.may_iff.1 hb
  have f1 := few_len fa; have f2 := few_len fb
  cases hu : uopen a b
  · exact CalP.may_no1 (ho.trans hu)
  · refine CalP.may_iff.2 ⟨ho.trans hu, ?_, ?_, ?_, ?_, ?_⟩
    · rw [h.hr, List.length_append]; omega
    · rw [h.hd]; have := uds_len a.ds b.ds; omega
    · rw [h.hr]; intro r hr
      rcases List.mem_append.1 hr with h | h
      · exact a4 r h
      · exact b4 r h
    · rw [h.hd]; intro d hd
      rcases ((uds_law a.ds b.ds).2 d).1 hd with h | h
      · exact a5 d h
      · exact b5 d h
    · rw [h.hd]; exact ris_of (uds_law a.ds b.ds).1
def UnionYes (a b : CalP) (w : World) (e : Ending) (w' : World) : Prop := ∃ u : CalP, UniOf a b u ∧ CalIn w' u ∧ u.may = true ∧ Below w.heap.size w w' ∧ e = .returned (.tuple #[.agg #[.bool u.o0, .bool u.o1, .bool u.o2, .bool u.o3, .bool u.o4, .bool u.o5, .bool u.o6, .slice u.A u.rs.length u.cR, .slice u.D u.ds.length u.cD], .int .i64 0])
def UnionNot (w : World) (e : Ending) (w' : World) : Prop := Below w.heap.size w w' ∧ e = .returned (.tuple #[.agg #[.bool false, .bool false, .bool false, .bool false, .bool false, .bool false, .bool false, .slice none 0 0, .slice none 0 0], .int .i64 1])
theorem union_yes (a b : CalP) (ha : a.may = true) (hb : b.may = true) (fa : a.few = true) (fb : b.few = true) (hu : uopen a b = true) (w : World) (hL : Laid w) (hN : AllOff w) (ia : CalIn w a) (ib : CalIn w b) : Calls Tryd.prog 37 #[.agg #[.bool a.o0, .bool a.o1, .bool a.o2, .bool a.o3, .bool a.o4, .bool a.o5, .bool a.o6, .slice a.A a.rs.length a.cR, .slice a.D a.ds.length a.cD], .agg #[.bool b.o0, .bool b.o1, .bool b.o2, .bool b.o3, .bool b.o4, .bool b.o5, .bool b.o6, .slice b.A b.rs.length b.cR, .slice b.D b.ds.length b.cD]] w (UnionYes a b w) := by
  have f1 := few_len fa; have f2 := few_len fb
  refine (union_c a b w hL hN ia ib (by omega) (by omega) (by omega) (by omega)).mono fun e w' ⟨u, h, hc, hB, hh⟩ => ?_
  have hm := uni_may h ha hb fa fb
  rcases hh with ⟨h1, h2⟩ | ⟨h1, h2⟩
  · exact ⟨u, h, hc, h1, hB, h2⟩
  · rw [hm, hu] at h1; cases h1
theorem union_not (a b : CalP) (ha : a.may = true) (hb : b.may = true) (fa : a.few = true) (fb : b.few = true) (hu : uopen a b = false) (w : World) (hL : Laid w) (hN : AllOff w) (ia : CalIn w a) (ib : CalIn w b) : Calls Tryd.prog 37 #[.agg #[.bool a.o0, .bool a.o1, .bool a.o2, .bool a.o3, .bool a.o4, .bool a.o5, .bool a.o6, .slice a.A a.rs.length a.cR, .slice a.D a.ds.length a.cD], .agg #[.bool b.o0, .bool b.o1, .bool b.o2, .bool b.o3, .bool b.o4, .bool b.o5, .bool b.o6, .slice b.A b.rs.length b.cR, .slice b.D b.ds.length b.cD]] w (UnionNot w) := by
  have f1 := few_len fa; have f2 := few_len fb
  refine (union_c a b w hL hN ia ib (by omega) (by omega) (by omega) (by omega)).mono fun e w' ⟨u, h, hc, hB, hh⟩ => ?_
  have hm := uni_may h ha hb fa fb
  rcases hh with ⟨h1, h2⟩ | ⟨h1, h2⟩
  · rw [hm, hu] at h1; cases h1
  · exact ⟨hB, h2⟩
end Go.Proofs.YtlilffoflkkbdaaDoor
