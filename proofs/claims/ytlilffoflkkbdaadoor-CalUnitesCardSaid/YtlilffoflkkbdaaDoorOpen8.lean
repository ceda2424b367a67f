/- Arguments of eight plain fields, opened: rules, and structs that begin with one. Conditions: none. -/
import Derived.Lib.SmallJoins
namespace Go.Proofs.YtlilffoflkkbdaaDoor
open Go.ChangeShapes Go.WideShapes Go.RowKit Go.Deep Go.WideElems
section
variable {H : Type} {enc : TypeId × Value → H} {P : Program} {w : World} {base : Nat} {spare : Nat → Bool} {held : Bool}
theorem list8 {α : Type} {l : List α} (h : l.length = 8) : ∃ c0 c1 c2 c3 c4 c5 c6 c7, l = [c0, c1, c2, c3, c4, c5, c6, c7] := by
  match l, h with
  | [c0, c1, c2, c3, c4, c5, c6, c7], _ => exact ⟨c0, c1, c2, c3, c4, c5, c6, c7, rfl⟩
theorem list11 {α : Type} {l : List α} (h : l.length = 11) : ∃ c0 c1 c2 c3 c4 c5 c6 c7 c8 c9 c10, l = [c0, c1, c2, c3, c4, c5, c6, c7, c8, c9, c10] := by
  match l, h with
  | [c0, c1, c2, c3, c4, c5, c6, c7, c8, c9, c10], _ => exact ⟨c0, c1, c2, c3, c4, c5, c6, c7, c8, c9, c10, rfl⟩
theorem list14 {α : Type} {l : List α} (h : l.length = 14) : ∃ c0 c1 c2 c3 c4 c5 c6 c7 c8 c9 c10 c11 c12 c13, l = [c0, c1, c2, c3, c4, c5, c6, c7, c8, c9, c10, c11, c12, c13] := by
  match l, h with
  | [c0, c1, c2, c3, c4, c5, c6, c7, c8, c9, c10, c11, c12, c13], _ => exact ⟨c0, c1, c2, c3, c4, c5, c6, c7, c8, c9, c10, c11, c12, c13, rfl⟩
theorem open_cells8 {t : TypeId} {f0 f1 f2 f3 f4 f5 f6 f7 : Field} {fuel : Nat} {cs : List Value} {x : DataW H × List MemPlace} (hs : P.underlying t = some (.struct #[f0, f1, f2, f3, f4, f5, f6, f7])) (o0 : f0.offset = 0) (k0 : P.cellsOf f0.type = 1) (o1 : f1.offset = 1) (k1 : P.cellsOf f1.type = 1) (o2 : f2.offset = 2) (k2 : P.cellsOf f2.type = 1) (o3 : f3.offset = 3) (k3 : P.cellsOf f3.type = 1) (o4 : f4.offset = 4) (k4 : P.cellsOf f4.type = 1) (o5 : f5.offset = 5) (k5 : P.cellsOf f5.type = 1) (o6 : f6.offset = 6) (k6 : P.cellsOf f6.type = 1) (o7 : f7.offset = 7) (k7 : P.cellsOf f7.type = 1) (hC : P.cellsOf t = 8)
    (h : DataW.trod enc P w base spare held fuel t cs = some x) :
    ∃ (c0 c1 c2 c3 c4 c5 c6 c7 : Value) (y0 y1 y2 y3 y4 y5 y6 y7 : DataW H × List MemPlace) (n : Nat), cs = [c0, c1, c2, c3, c4, c5, c6, c7] ∧ x = (.agg [y0.1, y1.1, y2.1, y3.1, y4.1, y5.1, y6.1, y7.1], y0.2 ++ (y1.2 ++ (y2.2 ++ (y3.2 ++ (y4.2 ++ (y5.2 ++ (y6.2 ++ (y7.2)))))))) ∧ DataW.trod enc P w base spare held n f0.type [c0] = some y0 ∧ DataW.trod enc P w base spare held n f1.type [c1] = some y1 ∧ DataW.trod enc P w base spare held n f2.type [c2] = some y2 ∧ DataW.trod enc P w base spare held n f3.type [c3] = some y3 ∧ DataW.trod enc P w base spare held n f4.type [c4] = some y4 ∧ DataW.trod enc P w base spare held n f5.type [c5] = some y5 ∧ DataW.trod enc P w base spare held n f6.type [c6] = some y6 ∧ DataW.trod enc P w base spare held n f7.type [c7] = some y7 := by
  obtain ⟨xs, n, _, rfl, hl, hlen, hf⟩ := DataW.trod_struct hs h
  obtain ⟨c0, c1, c2, c3, c4, c5, c6, c7, rfl⟩ := list8 (hl.trans hC)
  have hlen' : xs.length = 8 := by simpa using hlen
  clear hlen
  have hx : ∃ y0 y1 y2 y3 y4 y5 y6 y7, xs = [y0, y1, y2, y3, y4, y5, y6, y7] := by
    match xs, hlen' with
    | [y0, y1, y2, y3, y4, y5, y6, y7], _ => exact ⟨y0, y1, y2, y3, y4, y5, y6, y7, rfl⟩
  obtain ⟨y0, y1, y2, y3, y4, y5, y6, y7, rfl⟩ := hx
  exact ⟨c0, c1, c2, c3, c4, c5, c6, c7, y0, y1, y2, y3, y4, y5, y6, y7, n, rfl, by simp, by simpa [o0, k0] using hf 0 f0 rfl, by simpa [o1, k1] using hf 1 f1 rfl, by simpa [o2, k2] using hf 2 f2 rfl, by simpa [o3, k3] using hf 3 f3 rfl, by simpa [o4, k4] using hf 4 f4 rfl, by simpa [o5, k5] using hf 5 f5 rfl, by simpa [o6, k6] using hf 6 f6 rfl, by simpa [o7, k7] using hf 7 f7 rfl⟩
theorem open_agg8 {r : Reach} {b0 : Nat} {t : TypeId} {f0 f1 f2 f3 f4 f5 f6 f7 : Field} {v : Value} {d : DataW H} {p : List MemPlace} (hs : P.underlying t = some (.struct #[f0, f1, f2, f3, f4, f5, f6, f7])) (o0 : f0.offset = 0) (k0 : P.cellsOf f0.type = 1) (o1 : f1.offset = 1) (k1 : P.cellsOf f1.type = 1) (o2 : f2.offset = 2) (k2 : P.cellsOf f2.type = 1) (o3 : f3.offset = 3) (k3 : P.cellsOf f3.type = 1) (o4 : f4.offset = 4) (k4 : P.cellsOf f4.type = 1) (o5 : f5.offset = 5) (k5 : P.cellsOf f5.type = 1) (o6 : f6.offset = 6) (k6 : P.cellsOf f6.type = 1) (o7 : f7.offset = 7) (k7 : P.cellsOf f7.type = 1) (hC : P.cellsOf t = 8)
    (hv : Value.okWide P w r b0 t v) (h : DataW.Trod enc P w base spare held t v d p) :
    ∃ (c0 c1 c2 c3 c4 c5 c6 c7 : Value) (y0 y1 y2 y3 y4 y5 y6 y7 : DataW H × List MemPlace) (n : Nat), v = .agg #[c0, c1, c2, c3, c4, c5, c6, c7] ∧ d = .agg [y0.1, y1.1, y2.1, y3.1, y4.1, y5.1, y6.1, y7.1] ∧ p = y0.2 ++ (y1.2 ++ (y2.2 ++ (y3.2 ++ (y4.2 ++ (y5.2 ++ (y6.2 ++ (y7.2))))))) ∧ DataW.trod enc P w base spare held n f0.type [c0] = some y0 ∧ DataW.trod enc P w base spare held n f1.type [c1] = some y1 ∧ DataW.trod enc P w base spare held n f2.type [c2] = some y2 ∧ DataW.trod enc P w base spare held n f3.type [c3] = some y3 ∧ DataW.trod enc P w base spare held n f4.type [c4] = some y4 ∧ DataW.trod enc P w base spare held n f5.type [c5] = some y5 ∧ DataW.trod enc P w base spare held n f6.type [c6] = some y6 ∧ DataW.trod enc P w base spare held n f7.type [c7] = some y7 := by
  obtain ⟨as, rfl, hsz⟩ := okWide_struct hs hv
  obtain ⟨fuel, hf⟩ := h
  obtain ⟨c0, c1, c2, c3, c4, c5, c6, c7, y0, y1, y2, y3, y4, y5, y6, y7, n, hc, hx, hr⟩ := open_cells8 hs o0 k0 o1 k1 o2 k2 o3 k3 o4 k4 o5 k5 o6 k6 o7 k7 hC hf
  simp only [Prod.mk.injEq] at hx
  refine ⟨c0, c1, c2, c3, c4, c5, c6, c7, y0, y1, y2, y3, y4, y5, y6, y7, n, ?_, hx.1, hx.2, hr⟩
  obtain ⟨l⟩ := as
  simp only [Value.cells] at hc
  rw [hc]
theorem open_cellsR3 {t : TypeId} {f0 f1 f2 f3 : Field} {fuel : Nat} {cs : List Value} {x : DataW H × List MemPlace} (hs : P.underlying t = some (.struct #[f0, f1, f2, f3])) (o0 : f0.offset = 0) (k0 : P.cellsOf f0.type = 8) (o1 : f1.offset = 8) (k1 : P.cellsOf f1.type = 1) (o2 : f2.offset = 9) (k2 : P.cellsOf f2.type = 1) (o3 : f3.offset = 10) (k3 : P.cellsOf f3.type = 1) (hC : P.cellsOf t = 11)
    (h : DataW.trod enc P w base spare held fuel t cs = some x) :
    ∃ (c0 c1 c2 c3 c4 c5 c6 c7 c8 c9 c10 : Value) (y0 y1 y2 y3 : DataW H × List MemPlace) (n : Nat), cs = [c0, c1, c2, c3, c4, c5, c6, c7, c8, c9, c10] ∧ x = (.agg [y0.1, y1.1, y2.1, y3.1], y0.2 ++ (y1.2 ++ (y2.2 ++ (y3.2)))) ∧ DataW.trod enc P w base spare held n f0.type [c0, c1, c2, c3, c4, c5, c6, c7] = some y0 ∧ DataW.trod enc P w base spare held n f1.type [c8] = some y1 ∧ DataW.trod enc P w base spare held n f2.type [c9] = some y2 ∧ DataW.trod enc P w base spare held n f3.type [c10] = some y3 := by
  obtain ⟨xs, n, _, rfl, hl, hlen, hf⟩ := DataW.trod_struct hs h
  obtain ⟨c0, c1, c2, c3, c4, c5, c6, c7, c8, c9, c10, rfl⟩ := list11 (hl.trans hC)
  have hlen' : xs.length = 4 := by simpa using hlen
  clear hlen
  have hx : ∃ y0 y1 y2 y3, xs = [y0, y1, y2, y3] := by
    match xs, hlen' with
    | [y0, y1, y2, y3], _ => exact ⟨y0, y1, y2, y3, rfl⟩
  obtain ⟨y0, y1, y2, y3, rfl⟩ := hx
  exact ⟨c0, c1, c2, c3, c4, c5, c6, c7, c8, c9, c10, y0, y1, y2, y3, n, rfl, by simp, by simpa [o0, k0] using hf 0 f0 rfl, by simpa [o1, k1] using hf 1 f1 rfl, by simpa [o2, k2] using hf 2 f2 rfl, by simpa [o3, k3] using hf 3 f3 rfl⟩
theorem open_aggR3 {r : Reach} {b0 : Nat} {t : TypeId} {f0 f1 f2 f3 : Field} {v : Value} {d : DataW H} {p : List MemPlace} (hs : P.underlying t = some (.struct #[f0, f1, f2, f3])) (o0 : f0.offset = 0) (k0 : P.cellsOf f0.type = 8) (o1 : f1.offset = 8) (k1 : P.cellsOf f1.type = 1) (o2 : f2.offset = 9) (k2 : P.cellsOf f2.type = 1) (o3 : f3.offset = 10) (k3 : P.cellsOf f3.type = 1) (hC : P.cellsOf t = 11)
    (hv : Value.okWide P w r b0 t v) (h : DataW.Trod enc P w base spare held t v d p) :
    ∃ (c0 c1 c2 c3 c4 c5 c6 c7 c8 c9 c10 : Value) (y0 y1 y2 y3 : DataW H × List MemPlace) (n : Nat), v = .agg #[c0, c1, c2, c3, c4, c5, c6, c7, c8, c9, c10] ∧ d = .agg [y0.1, y1.1, y2.1, y3.1] ∧ p = y0.2 ++ (y1.2 ++ (y2.2 ++ (y3.2))) ∧ DataW.trod enc P w base spare held n f0.type [c0, c1, c2, c3, c4, c5, c6, c7] = some y0 ∧ DataW.trod enc P w base spare held n f1.type [c8] = some y1 ∧ DataW.trod enc P w base spare held n f2.type [c9] = some y2 ∧ DataW.trod enc P w base spare held n f3.type [c10] = some y3 := by
  obtain ⟨as, rfl, hsz⟩ := okWide_struct hs hv
  obtain ⟨fuel, hf⟩ := h
  obtain ⟨c0, c1, c2, c3, c4, c5, c6, c7, c8, c9, c10, y0, y1, y2, y3, n, hc, hx, hr⟩ := open_cellsR3 hs o0 k0 o1 k1 o2 k2 o3 k3 hC hf
  simp only [Prod.mk.injEq] at hx
  refine ⟨c0, c1, c2, c3, c4, c5, c6, c7, c8, c9, c10, y0, y1, y2, y3, n, ?_, hx.1, hx.2, hr⟩
  obtain ⟨l⟩ := as
  simp only [Value.cells] at hc
  rw [hc]
theorem open_cellsR6 {t : TypeId} {f0 f1 f2 f3 f4 f5 f6 : Field} {fuel : Nat} {cs : List Value} {x : DataW H × List MemPlace} (hs : P.underlying t = some (.struct #[f0, f1, f2, f3, f4, f5, f6])) (o0 : f0.offset = 0) (k0 : P.cellsOf f0.type = 8) (o1 : f1.offset = 8) (k1 : P.cellsOf f1.type = 1) (o2 : f2.offset = 9) (k2 : P.cellsOf f2.type = 1) (o3 : f3.offset = 10) (k3 : P.cellsOf f3.type = 1) (o4 : f4.offset = 11) (k4 : P.cellsOf f4.type = 1) (o5 : f5.offset = 12) (k5 : P.cellsOf f5.type = 1) (o6 : f6.offset = 13) (k6 : P.cellsOf f6.type = 1) (hC : P.cellsOf t = 14)
    (h : DataW.trod enc P w base spare held fuel t cs = some x) :
    ∃ (c0 c1 c2 c3 c4 c5 c6 c7 c8 c9 c10 c11 c12 c13 : Value) (y0 y1 y2 y3 y4 y5 y6 : DataW H × List MemPlace) (n : Nat), cs = [c0, c1, c2, c3, c4, c5, c6, c7, c8, c9, c10, c11, c12, c13] ∧ x = (.agg [y0.1, y1.1, y2.1, y3.1, y4.1, y5.1, y6.1], y0.2 ++ (y1.2 ++ (y2.2 ++ (y3.2 ++ (y4.2 ++ (y5.2 ++ (y6.2))))))) ∧ DataW.trod enc P w base spare held n f0.type [c0, c1, c2, c3, c4, c5, c6, c7] = some y0 ∧ DataW.trod enc P w base spare held n f1.type [c8] = some y1 ∧ DataW.trod enc P w base spare held n f2.type [c9] = some y2 ∧ DataW.trod enc P w base spare held n f3.type [c10] = some y3 ∧ DataW.trod enc P w base spare held n f4.type [c11] = some y4 ∧ DataW.trod enc P w base spare held n f5.type [c12] = some y5 ∧ DataW.trod enc P w base spare held n f6.type [c13] = some y6 := by
  obtain ⟨xs, n, _, rfl, hl, hlen, hf⟩ := DataW.trod_struct hs h
  obtain ⟨c0, c1, c2, c3, c4, c5, c6, c7, c8, c9, c10, c11, c12, c13, rfl⟩ := list14 (hl.trans hC)
  have hlen' : xs.length = 7 := by simpa using hlen
  clear hlen
  have hx : ∃ y0 y1 y2 y3 y4 y5 y6, xs = [y0, y1, y2, y3, y4, y5, y6] := by
    match xs, hlen' with
    | [y0, y1, y2, y3, y4, y5, y6], _ => exact ⟨y0, y1, y2, y3, y4, y5, y6, rfl⟩
  obtain ⟨y0, y1, y2, y3, y4, y5, y6, rfl⟩ := hx
  exact ⟨c0, c1, c2, c3, c4, c5, c6, c7, c8, c9, c10, c11, c12, c13, y0, y1, y2, y3, y4, y5, y6, n, rfl, by simp, by simpa [o0, k0] using hf 0 f0 rfl, by simpa [o1, k1] using hf 1 f1 rfl, by simpa [o2, k2] using hf 2 f2 rfl, by simpa [o3, k3] using hf 3 f3 rfl, by simpa [o4, k4] using hf 4 f4 rfl, by simpa [o5, k5] using hf 5 f5 rfl, by simpa [o6, k6] using hf 6 f6 rfl⟩
theorem open_aggR6 {r : Reach} {b0 : Nat} {t : TypeId} {f0 f1 f2 f3 f4 f5 f6 : Field} {v : Value} {d : DataW H} {p : List MemPlace} (hs : P.underlying t = some (.struct #[f0, f1, f2, f3, f4, f5, f6])) (o0 : f0.offset = 0) (k0 : P.cellsOf f0.type = 8) (o1 : f1.offset = 8) (k1 : P.cellsOf f1.type = 1) (o2 : f2.offset = 9) (k2 : P.cellsOf f2.type = 1) (o3 : f3.offset = 10) (k3 : P.cellsOf f3.type = 1) (o4 : f4.offset = 11) (k4 : P.cellsOf f4.type = 1) (o5 : f5.offset = 12) (k5 : P.cellsOf f5.type = 1) (o6 : f6.offset = 13) (k6 : P.cellsOf f6.type = 1) (hC : P.cellsOf t = 14)
    (hv : Value.okWide P w r b0 t v) (h : DataW.Trod enc P w base spare held t v d p) :
    ∃ (c0 c1 c2 c3 c4 c5 c6 c7 c8 c9 c10 c11 c12 c13 : Value) (y0 y1 y2 y3 y4 y5 y6 : DataW H × List MemPlace) (n : Nat), v = .agg #[c0, c1, c2, c3, c4, c5, c6, c7, c8, c9, c10, c11, c12, c13] ∧ d = .agg [y0.1, y1.1, y2.1, y3.1, y4.1, y5.1, y6.1] ∧ p = y0.2 ++ (y1.2 ++ (y2.2 ++ (y3.2 ++ (y4.2 ++ (y5.2 ++ (y6.2)))))) ∧ DataW.trod enc P w base spare held n f0.type [c0, c1, c2, c3, c4, c5, c6, c7] = some y0 ∧ DataW.trod enc P w base spare held n f1.type [c8] = some y1 ∧ DataW.trod enc P w base spare held n f2.type [c9] = some y2 ∧ DataW.trod enc P w base spare held n f3.type [c10] = some y3 ∧ DataW.trod enc P w base spare held n f4.type [c11] = some y4 ∧ DataW.trod enc P w base spare held n f5.type [c12] = some y5 ∧ DataW.trod enc P w base spare held n f6.type [c13] = some y6 := by
  obtain ⟨as, rfl, hsz⟩ := okWide_struct hs hv
  obtain ⟨fuel, hf⟩ := h
  obtain ⟨c0, c1, c2, c3, c4, c5, c6, c7, c8, c9, c10, c11, c12, c13, y0, y1, y2, y3, y4, y5, y6, n, hc, hx, hr⟩ := open_cellsR6 hs o0 k0 o1 k1 o2 k2 o3 k3 o4 k4 o5 k5 o6 k6 hC hf
  simp only [Prod.mk.injEq] at hx
  refine ⟨c0, c1, c2, c3, c4, c5, c6, c7, c8, c9, c10, c11, c12, c13, y0, y1, y2, y3, y4, y5, y6, n, ?_, hx.1, hx.2, hr⟩
  obtain ⟨l⟩ := as
  simp only [Value.cells] at hc
  rw [hc]
end
end Go.Proofs.YtlilffoflkkbdaaDoor
