/- Calendars, plainly, and how they lie in memory: rules, days, and which days are days of business. Conditions: none. -/
import Derived.Test.YtlilffoflkkbdaaDoorRulG
namespace Go.Proofs.YtlilffoflkkbdaaDoor
open Go.RowKit
set_option linter.unusedVariables false

/-- A rule of holidays. -/
structure R8 where
  kd : Int
  mo : Int
  da : Int
  kk : Int
  off : Int
  sh : Int
  fr : Int
  to : Int
instance : Inhabited R8 := ⟨⟨0, 1, 1, 0, 0, 0, 1, 1⟩⟩
def R8.may (r : R8) : Bool := Rul.may r.kd r.mo r.da r.kk r.off r.sh r.fr r.to
def R8.is (r : R8) (n : Int) : Bool := Rul.isB r.kd r.mo r.da r.kk r.off r.sh r.fr r.to n
def R8.enc (r : R8) : List Value := [.int .i64 r.kd, .int .i64 r.mo, .int .i64 r.da, .int .i64 r.kk, .int .i64 r.off, .int .i64 r.sh, .int .i64 r.fr, .int .i64 r.to]
theorem R8.enc_length (r : R8) : r.enc.length = 8 := rfl
theorem R8.mayP {r : R8} (h : r.may = true) : Rul.mayP r.kd r.mo r.da r.kk r.off r.sh r.fr r.to := Rul.may_iff.1 h
/-- A rule that may be. -/
def MayR : Type := { r : R8 // r.may = true }
instance : Inhabited MayR := ⟨⟨default, by decide⟩⟩

/-- A calendar: which days of the week are off, where its rules and its days lie, and what they are. -/
structure CalP where
  o0 : Bool
  o1 : Bool
  o2 : Bool
  o3 : Bool
  o4 : Bool
  o5 : Bool
  o6 : Bool
  A : Option Addr
  cR : Nat
  rs : List R8
  D : Option Addr
  cD : Nat
  ds : List Int
def CalP.off (c : CalP) (k : Int) : Bool := if k = 0 then c.o0 else if k = 1 then c.o1 else if k = 2 then c.o2 else if k = 3 then c.o3 else if k = 4 then c.o4 else if k = 5 then c.o5 else c.o6
def CalP.is (c : CalP) (n : Int) : Bool := dayB n && (!c.off (Cal.wd n) && (!c.ds.contains n && !c.rs.any (·.is n)))
def risB : List Int → Bool
  | a :: b :: l => decide (a < b) && risB (b :: l)
  | _ => true
def CalP.open_ (c : CalP) : Bool := !(c.o0 && (c.o1 && (c.o2 && (c.o3 && (c.o4 && (c.o5 && c.o6))))))
def CalP.may (c : CalP) : Bool := c.open_ && (decide (c.rs.length ≤ 100) && (decide (c.ds.length ≤ 1000) && (c.rs.all R8.may && (c.ds.all dayB && risB c.ds))))
def CalP.few (c : CalP) : Bool := decide (c.rs.length ≤ 12) && decide (c.ds.length ≤ 60)

/-- Rules, as they lie. -/
def RIn (w : World) (A : Option Addr) (rs : List R8) : Prop := rs = [] ∨ ∃ b o, A = some ⟨b, o, none⟩ ∧ b < w.heap.size ∧ ∀ j, j < rs.length → ∀ i v, (rs[j]!.enc)[i]? = some v → w.cell? ⟨b, o + j * 8 + i, none⟩ = some v
/-- Days, as they lie. -/
def DIn (w : World) (D : Option Addr) (ds : List Int) : Prop := ds = [] ∨ ∃ b o, D = some ⟨b, o, none⟩ ∧ b < w.heap.size ∧ ∀ j, j < ds.length → w.cell? ⟨b, o + j, none⟩ = some (.int .i64 (ds.getD j 0))
structure CalIn (w : World) (c : CalP) : Prop where
  r : RIn w c.A c.rs
  d : DIn w c.D c.ds
theorem RIn.below {w w' : World} {A : Option Addr} {rs : List R8} (h : RIn w A rs) (hb : Below w.heap.size w w') : RIn w' A rs := by
  rcases h with h | ⟨b, o, h1, h2, h3⟩
  · exact Or.inl h
  · exact Or.inr ⟨b, o, h1, Nat.lt_of_lt_of_le h2 hb.size, fun j hj i v hv => (hb.cell (p := ⟨b, o + j * 8 + i, none⟩) h2).trans (h3 j hj i v hv)⟩
theorem DIn.below {w w' : World} {D : Option Addr} {ds : List Int} (h : DIn w D ds) (hb : Below w.heap.size w w') : DIn w' D ds := by
  rcases h with h | ⟨b, o, h1, h2, h3⟩
  · exact Or.inl h
  · exact Or.inr ⟨b, o, h1, Nat.lt_of_lt_of_le h2 hb.size, fun j hj => (hb.cell (p := ⟨b, o + j, none⟩) h2).trans (h3 j hj)⟩
theorem CalIn.below {w w' : World} {c : CalP} (h : CalIn w c) (hb : Below w.heap.size w w') : CalIn w' c := ⟨h.r.below hb, h.d.below hb⟩

namespace CalP
theorem may_iff {c : CalP} : c.may = true ↔ (c.open_ = true ∧ c.rs.length ≤ 100 ∧ c.ds.length ≤ 1000 ∧ (∀ r ∈ c.rs, r.may = true) ∧ (∀ d ∈ c.ds, dayB d = true) ∧ risB c.ds = true) := by
  unfold CalP.may
  simp only [Bool.and_eq_true, decide_eq_true_eq, List.all_eq_true]
theorem ris_pair : ∀ (l : List Int), risB l = true → l.Pairwise (· < ·)
  | [], _ => List.Pairwise.nil
  | [a], _ => by simp
  | a :: b :: l, h => by
    simp only [risB, Bool.and_eq_true, decide_eq_true_eq] at h
    have ih := ris_pair (b :: l) h.2
    refine List.Pairwise.cons ?_ ih
    intro x hx
    rcases List.mem_cons.1 hx with rfl | hx
    · exact h.1
    · have := (List.pairwise_cons.1 ih).1 x hx; omega
theorem ris_le {l : List Int} (h : risB l = true) : l.Pairwise (· ≤ ·) := (ris_pair l h).imp (fun h => Int.le_of_lt h)
theorem off_bd (c : CalP) (k : Int) : c.off k = true ∨ c.off k = false := by cases c.off k <;> simp
theorem is_out {c : CalP} {n : Int} (h : n < 1 ∨ 3652059 < n) : c.is n = false := by unfold CalP.is; rw [dayB_out h]; rfl
theorem is_day {c : CalP} {n : Int} (h : c.is n = true) : 1 ≤ n ∧ n ≤ 3652059 := by
  by_cases k : 1 ≤ n ∧ n ≤ 3652059
  · exact k
  · rw [is_out (by omega)] at h; cases h
end CalP
end Go.Proofs.YtlilffoflkkbdaaDoor
