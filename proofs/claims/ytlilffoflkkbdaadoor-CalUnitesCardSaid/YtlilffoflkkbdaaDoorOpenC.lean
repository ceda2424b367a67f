/- Calendars as arguments, opened: the week's days off, the rules and the days as they lie. Conditions: none. -/
import Derived.Lib.SmallJoins
import Derived.ChangeArms
import Derived.Test.YtlilffoflkkbdaaDoorCald
import Derived.Test.YtlilffoflkkbdaaDoorLaid4
import Derived.Test.YtlilffoflkkbdaaDoorOpen8
namespace Go.Proofs.YtlilffoflkkbdaaDoor
open Go.ChangeShapes Go.WideShapes Go.RowKit Go.Deep Go.WideElems
section
variable {H : Type} {enc : TypeId × Value → H} {w : World} {spare : Nat → Bool} {held : Bool}
theorem lst7 {α : Type} {l : List α} (h : l.length = 7) : ∃ c0 c1 c2 c3 c4 c5 c6, l = [c0, c1, c2, c3, c4, c5, c6] := by
  match l, h with
  | [c0, c1, c2, c3, c4, c5, c6], _ => exact ⟨c0, c1, c2, c3, c4, c5, c6, rfl⟩
theorem lst9 {α : Type} {l : List α} (h : l.length = 9) : ∃ c0 c1 c2 c3 c4 c5 c6 c7 c8, l = [c0, c1, c2, c3, c4, c5, c6, c7, c8] := by
  match l, h with
  | [c0, c1, c2, c3, c4, c5, c6, c7, c8], _ => exact ⟨c0, c1, c2, c3, c4, c5, c6, c7, c8, rfl⟩
theorem lst12 {α : Type} {l : List α} (h : l.length = 12) : ∃ c0 c1 c2 c3 c4 c5 c6 c7 c8 c9 c10 c11, l = [c0, c1, c2, c3, c4, c5, c6, c7, c8, c9, c10, c11] := by
  match l, h with
  | [c0, c1, c2, c3, c4, c5, c6, c7, c8, c9, c10, c11], _ => exact ⟨c0, c1, c2, c3, c4, c5, c6, c7, c8, c9, c10, c11, rfl⟩
theorem lsp3 {α : Type} {l : List α} (h : l.length = 3) : ∃ c0 c1 c2, l = [c0, c1, c2] := by
  match l, h with
  | [c0, c1, c2], _ => exact ⟨c0, c1, c2, rfl⟩
theorem lsp4 {α : Type} {l : List α} (h : l.length = 4) : ∃ c0 c1 c2 c3, l = [c0, c1, c2, c3] := by
  match l, h with
  | [c0, c1, c2, c3], _ => exact ⟨c0, c1, c2, c3, rfl⟩
/-- Seven truths. -/
theorem week_cells {fuel : Nat} {cs : List Value} {x : DataW H × List MemPlace} (h : DataW.trod enc Tryd.prog w 0 spare held fuel 22 cs = some x) :
    ∃ o0 o1 o2 o3 o4 o5 o6 : Bool, cs = [.bool o0, .bool o1, .bool o2, .bool o3, .bool o4, .bool o5, .bool o6] := by
  cases fuel with
  | zero => simp [DataW.trod] at h
  | succ fuel =>
    have ht : Tryd.prog.underlying 22 = some (.array 7 4) := Tryd.underlying22
    have hce : Tryd.prog.cellsOf 4 = 1 := cellsBool
    have hct : Tryd.prog.cellsOf 22 = 7 := by kernel_rfl
    simp only [DataW.trod, ht, hce, hct, Nat.mul_one] at h
    split at h
    · rename_i hl
      obtain ⟨xs, hm, hx⟩ := Option.map_eq_some_iff.1 h
      obtain ⟨c0, c1, c2, c3, c4, c5, c6, rfl⟩ := lst7 hl
      have at_ : ∀ i : Nat, i < 7 → ∃ b : Bool, (([c0, c1, c2, c3, c4, c5, c6] : List Value).drop i).take 1 = [.bool b] := by
        intro i hi
        obtain ⟨y, hy, hf⟩ := Lib.mapM_at hm i i (by simp [hi])
        obtain ⟨b, h1, _⟩ := DataW.trod_bool Tryd.underlying4 hf
        exact ⟨b, by simpa using h1⟩
      obtain ⟨b0, e0⟩ := at_ 0 (by decide)
      obtain ⟨b1, e1⟩ := at_ 1 (by decide)
      obtain ⟨b2, e2⟩ := at_ 2 (by decide)
      obtain ⟨b3, e3⟩ := at_ 3 (by decide)
      obtain ⟨b4, e4⟩ := at_ 4 (by decide)
      obtain ⟨b5, e5⟩ := at_ 5 (by decide)
      obtain ⟨b6, e6⟩ := at_ 6 (by decide)
      simp at e0 e1 e2 e3 e4 e5 e6
      subst e0 e1 e2 e3 e4 e5 e6
      exact ⟨b0, b1, b2, b3, b4, b5, b6, rfl⟩
    · cases h
theorem add_mk (b o i : Nat) : (⟨b, o, none⟩ : Addr).add i = ⟨b, o + i, none⟩ := by
  unfold Addr.add
  by_cases h : i = 0
  · subst h; simp
  · simp [h]
theorem spot_none {a : Addr} {v : Value} (h : w.cell? a = some v) : a.spot = none := by
  obtain ⟨b, o, s⟩ := a
  cases s with
  | none => rfl
  | some x =>
    unfold World.cell? at h
    simp only [Option.isSome_some, if_true] at h
    split at h <;> cases h
/-- The cells of a slice of days. -/
theorem days_cells {fuel : Nat} {cs : List Value} {x : DataW H × List MemPlace} (h : DataW.trod enc Tryd.prog w 0 spare held fuel 24 cs = some x) :
    ∃ (A : Option Addr) (ds : List Int) (cap : Nat), cs = [.slice A ds.length cap] ∧ DIn w A ds := by
  rcases DataW.trod_slice Tryd.underlying24 h with ⟨h0, _⟩ | ⟨a, len, cap, elems, rest, n, _, rfl, _, _, _, _, hlen, hel, _, _⟩
  · exact ⟨none, [], 0, by rw [h0]; rfl, Or.inl rfl⟩
  · have each : ∀ i : Nat, ∃ m : Int, i < len → w.cell? (a.add i) = some (.int .i64 m) := by
      intro i
      by_cases hi : i < len
      · have hg := hel i hi
        rw [cellsInt, Nat.mul_one, List.getElem?_eq_getElem (by omega : i < elems.length), Option.bind_eq_some_iff] at hg
        obtain ⟨cs', hcs, hy⟩ := hg
        obtain ⟨m, rfl, _, _⟩ := DataW.trod_int Tryd.underlying3 hy
        have := (World.cells?_some hcs).2.2 0 (by omega)
        exact ⟨m, fun _ => by simpa [Addr.add] using this⟩
      · exact ⟨0, fun h => absurd h hi⟩
    obtain ⟨D, hD⟩ : ∃ D : Nat → Int, ∀ i : Nat, i < len → w.cell? (a.add i) = some (.int .i64 (D i)) := ⟨fun i => Classical.choose (each i), fun i hi => Classical.choose_spec (each i) hi⟩
    refine ⟨some a, (List.range len).map D, cap, by simp, ?_⟩
    by_cases h0 : len = 0
    · subst h0; exact Or.inl rfl
    · have hs : a.spot = none := by
        have := hD 0 (by omega)
        unfold World.cell? at this
        split at this
        · split at this
          · cases this
          · rename_i hn; simpa [Addr.add] using hn
        · cases this
      obtain ⟨b, o, s⟩ := a
      subst hs
      refine Or.inr ⟨b, o, rfl, World.block_lt_of_cell? w _ (hD 0 (by omega)), fun j hj => ?_⟩
      have hj' : j < len := by simpa using hj
      have e : ((List.range len).map D).getD j 0 = D j := by simp [hj']
      have := hD j hj'
      rw [add_mk] at this
      rw [e]; exact this
/-- The cells of a rule. -/
theorem rule_cells {fuel : Nat} {cs : List Value} {x : DataW H × List MemPlace} (h : DataW.trod enc Tryd.prog w 0 spare held fuel 68 cs = some x) :
    ∃ r : R8, cs = r.enc := by
  obtain ⟨z0, z1, z2, z3, z4, z5, z6, z7, f0, f1, f2, f3, f4, f5, f6, f7, n, hcs, _, t0, t1, t2, t3, t4, t5, t6, t7⟩ := open_cells8 Tryd.underlying68 rfl (by kernel_rfl) rfl (by kernel_rfl) rfl (by kernel_rfl) rfl (by kernel_rfl) rfl (by kernel_rfl) rfl (by kernel_rfl) rfl (by kernel_rfl) rfl (by kernel_rfl) (show Tryd.prog.cellsOf 68 = 8 by kernel_rfl) h
  obtain ⟨m0, q0, _, _⟩ := DataW.trod_int Tryd.underlying3 t0
  obtain ⟨m1, q1, _, _⟩ := DataW.trod_int Tryd.underlying3 t1
  obtain ⟨m2, q2, _, _⟩ := DataW.trod_int Tryd.underlying3 t2
  obtain ⟨m3, q3, _, _⟩ := DataW.trod_int Tryd.underlying3 t3
  obtain ⟨m4, q4, _, _⟩ := DataW.trod_int Tryd.underlying3 t4
  obtain ⟨m5, q5, _, _⟩ := DataW.trod_int Tryd.underlying3 t5
  obtain ⟨m6, q6, _, _⟩ := DataW.trod_int Tryd.underlying3 t6
  obtain ⟨m7, q7, _, _⟩ := DataW.trod_int Tryd.underlying3 t7
  simp only [List.cons.injEq, and_true] at q0 q1 q2 q3 q4 q5 q6 q7
  subst q0 q1 q2 q3 q4 q5 q6 q7
  exact ⟨⟨m0, m1, m2, m3, m4, m5, m6, m7⟩, hcs⟩
/-- The cells of a slice of rules. -/
theorem rules_cells {fuel : Nat} {cs : List Value} {x : DataW H × List MemPlace} (h : DataW.trod enc Tryd.prog w 0 spare held fuel 23 cs = some x) :
    ∃ (A : Option Addr) (rs : List R8) (cap : Nat), cs = [.slice A rs.length cap] ∧ RIn w A rs := by
  rcases DataW.trod_slice Tryd.underlying23 h with ⟨h0, _⟩ | ⟨a, len, cap, elems, rest, n, _, rfl, _, _, _, _, hlen, hel, _, _⟩
  · exact ⟨none, [], 0, by rw [h0]; rfl, Or.inl rfl⟩
  · have each : ∀ i : Nat, ∃ r : R8, i < len → ∀ k, k < 8 → w.cell? ((a.add (i * 8)).add k) = (r.enc)[k]? := by
      intro i
      by_cases hi : i < len
      · have hg := hel i hi
        rw [show Tryd.prog.cellsOf 68 = 8 by kernel_rfl, List.getElem?_eq_getElem (by omega : i < elems.length), Option.bind_eq_some_iff] at hg
        obtain ⟨cs', hcs, hy⟩ := hg
        obtain ⟨r, rfl⟩ := rule_cells hy
        exact ⟨r, fun _ k hk => (World.cells?_some hcs).2.2 k hk⟩
      · exact ⟨⟨0, 0, 0, 0, 0, 0, 0, 0⟩, fun h => absurd h hi⟩
    obtain ⟨D, hD⟩ : ∃ D : Nat → R8, ∀ i : Nat, i < len → ∀ k, k < 8 → w.cell? ((a.add (i * 8)).add k) = ((D i).enc)[k]? := ⟨fun i => Classical.choose (each i), fun i hi => Classical.choose_spec (each i) hi⟩
    refine ⟨some a, (List.range len).map D, cap, by simp, ?_⟩
    by_cases h0 : len = 0
    · subst h0; exact Or.inl rfl
    · have h00 := hD 0 (by omega) 0 (by decide)
      have hs : a.spot = none := by simpa [Addr.add] using spot_none (h00.trans (show ((D 0).enc)[0]? = some (.int .i64 (D 0).kd) from rfl))
      obtain ⟨b, o, s⟩ := a
      subst hs
      refine Or.inr ⟨b, o, rfl, World.block_lt_of_cell? w _ (h00.trans rfl), fun j hj i v hv => ?_⟩
      have hj' : j < len := by simpa using hj
      have e : ((List.range len).map D)[j]! = D j := by simp [hj']
      rw [e] at hv
      have hi : i < 8 := by
        have := (List.getElem?_eq_some_iff.1 hv).1
        simpa [R8.enc] using this
      have := (hD j hj' i hi).trans hv
      rw [add_mk, add_mk] at this
      exact this
/-- The cells of a calendar. -/
theorem cal_cells {fuel : Nat} {cs : List Value} {x : DataW H × List MemPlace} (h : DataW.trod enc Tryd.prog w 0 spare held fuel 26 cs = some x) :
    ∃ c : CalP, cs = [.bool c.o0, .bool c.o1, .bool c.o2, .bool c.o3, .bool c.o4, .bool c.o5, .bool c.o6, .slice c.A c.rs.length c.cR, .slice c.D c.ds.length c.cD] ∧ CalIn w c := by
  obtain ⟨xs, n, _, rfl, hl, hlen, hf⟩ := DataW.trod_struct Tryd.underlying26 h
  obtain ⟨c0, c1, c2, c3, c4, c5, c6, c7, c8, rfl⟩ := lst9 (hl.trans (show Tryd.prog.cellsOf 26 = 9 by kernel_rfl))
  have h0 : DataW.trod enc Tryd.prog w 0 spare held n 22 (([c0, c1, c2, c3, c4, c5, c6, c7, c8].drop 0).take (Tryd.prog.cellsOf 22)) = xs[0]? := hf 0 _ rfl
  have h1 : DataW.trod enc Tryd.prog w 0 spare held n 23 (([c0, c1, c2, c3, c4, c5, c6, c7, c8].drop 7).take (Tryd.prog.cellsOf 23)) = xs[1]? := hf 1 _ rfl
  have h2 : DataW.trod enc Tryd.prog w 0 spare held n 24 (([c0, c1, c2, c3, c4, c5, c6, c7, c8].drop 8).take (Tryd.prog.cellsOf 24)) = xs[2]? := hf 2 _ rfl
  rw [show Tryd.prog.cellsOf 22 = 7 by kernel_rfl] at h0
  rw [show Tryd.prog.cellsOf 23 = 1 by kernel_rfl] at h1
  rw [show Tryd.prog.cellsOf 24 = 1 by kernel_rfl] at h2
  have hlen' : xs.length = 3 := by simpa using hlen
  obtain ⟨y0, y1, y2, rfl⟩ := lsp3 hlen'
  obtain ⟨o0, o1, o2, o3, o4, o5, o6, e0⟩ := week_cells (show DataW.trod enc Tryd.prog w 0 spare held n 22 [c0, c1, c2, c3, c4, c5, c6] = some y0 from h0)
  obtain ⟨A, rs, cR, e1, hr⟩ := rules_cells (show DataW.trod enc Tryd.prog w 0 spare held n 23 [c7] = some y1 from h1)
  obtain ⟨D, ds, cD, e2, hd⟩ := days_cells (show DataW.trod enc Tryd.prog w 0 spare held n 24 [c8] = some y2 from h2)
  simp only [List.cons.injEq, and_true] at e0 e1 e2
  obtain ⟨rfl, rfl, rfl, rfl, rfl, rfl, rfl⟩ := e0
  subst e1 e2
  exact ⟨⟨o0, o1, o2, o3, o4, o5, o6, A, cR, rs, D, cD, ds⟩, rfl, hr, hd⟩
set_option maxRecDepth 100000 in
/-- A calendar as an argument. -/
theorem open_cal {r : Reach} {b0 : Nat} {v : Value} {d : DataW H} {p : List MemPlace} (hv : Value.okWide Tryd.prog w r b0 26 v) (h : DataW.Trod enc Tryd.prog w 0 spare held 26 v d p) :
    ∃ c : CalP, v = .agg #[.bool c.o0, .bool c.o1, .bool c.o2, .bool c.o3, .bool c.o4, .bool c.o5, .bool c.o6, .slice c.A c.rs.length c.cR, .slice c.D c.ds.length c.cD] ∧ CalIn w c := by
  obtain ⟨vs, rfl, hsz⟩ := okWide_struct Tryd.underlying26 hv
  obtain ⟨fuel, hf⟩ := h
  obtain ⟨c, hc, hi⟩ := cal_cells hf
  refine ⟨c, ?_, hi⟩
  obtain ⟨l⟩ := vs
  simp only [Value.cells] at hc
  rw [hc]
set_option maxRecDepth 100000 in
/-- Seven truths as an argument. -/
theorem open_week {r : Reach} {b0 : Nat} {v : Value} {d : DataW H} {p : List MemPlace} (hv : Value.okWide Tryd.prog w r b0 22 v) (h : DataW.Trod enc Tryd.prog w 0 spare held 22 v d p) :
    ∃ o0 o1 o2 o3 o4 o5 o6 : Bool, v = .agg #[.bool o0, .bool o1, .bool o2, .bool o3, .bool o4, .bool o5, .bool o6] := by
  have hv2 := hv
  simp only [Value.okWide, Tryd.underlying22] at hv2
  obtain ⟨vs, rfl, hsz, _⟩ := hv2
  obtain ⟨fuel, hf⟩ := h
  obtain ⟨o0, o1, o2, o3, o4, o5, o6, hc⟩ := week_cells hf
  refine ⟨o0, o1, o2, o3, o4, o5, o6, ?_⟩
  obtain ⟨l⟩ := vs
  simp only [Value.cells] at hc
  rw [hc]
end
end Go.Proofs.YtlilffoflkkbdaaDoor
