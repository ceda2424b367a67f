/- Structs whose fields have several cells, as arguments, opened. Conditions: none. -/
import Derived.Lib.SmallJoins
namespace Go.Proofs.YtlilffoflkkbdaaDoor
open Go.ChangeShapes Go.WideShapes Go.RowKit Go.Deep Go.WideElems
section
variable {H : Type} {enc : TypeId × Value → H} {P : Program} {w : World} {base : Nat} {spare : Nat → Bool} {held : Bool}
theorem listC9 {α : Type} {l : List α} (h : l.length = 12) : ∃ c0 c1 c2 c3 c4 c5 c6 c7 c8 c9 c10 c11, l = [c0, c1, c2, c3, c4, c5, c6, c7, c8, c9, c10, c11] := by
  match l, h with
  | [c0, c1, c2, c3, c4, c5, c6, c7, c8, c9, c10, c11], _ => exact ⟨c0, c1, c2, c3, c4, c5, c6, c7, c8, c9, c10, c11, rfl⟩
theorem open_cellsC9 {t : TypeId} {f0 f1 f2 f3 : Field} {fuel : Nat} {cs : List Value} {x : DataW H × List MemPlace} (hs : P.underlying t = some (.struct #[f0, f1, f2, f3])) (o0 : f0.offset = 0) (k0 : P.cellsOf f0.type = 9) (o1 : f1.offset = 9) (k1 : P.cellsOf f1.type = 1) (o2 : f2.offset = 10) (k2 : P.cellsOf f2.type = 1) (o3 : f3.offset = 11) (k3 : P.cellsOf f3.type = 1) (hC : P.cellsOf t = 12)
    (h : DataW.trod enc P w base spare held fuel t cs = some x) :
    ∃ (c0 c1 c2 c3 c4 c5 c6 c7 c8 c9 c10 c11 : Value) (y0 y1 y2 y3 : DataW H × List MemPlace) (n : Nat), cs = [c0, c1, c2, c3, c4, c5, c6, c7, c8, c9, c10, c11] ∧ x = (.agg [y0.1, y1.1, y2.1, y3.1], y0.2 ++ (y1.2 ++ (y2.2 ++ (y3.2)))) ∧ DataW.trod enc P w base spare held n f0.type [c0, c1, c2, c3, c4, c5, c6, c7, c8] = some y0 ∧ DataW.trod enc P w base spare held n f1.type [c9] = some y1 ∧ DataW.trod enc P w base spare held n f2.type [c10] = some y2 ∧ DataW.trod enc P w base spare held n f3.type [c11] = some y3 := by
  obtain ⟨xs, n, _, rfl, hl, hlen, hf⟩ := DataW.trod_struct hs h
  obtain ⟨c0, c1, c2, c3, c4, c5, c6, c7, c8, c9, c10, c11, rfl⟩ := listC9 (hl.trans hC)
  have hlen' : xs.length = 4 := by simpa using hlen
  clear hlen
  have hx : ∃ y0 y1 y2 y3, xs = [y0, y1, y2, y3] := by
    match xs, hlen' with
    | [y0, y1, y2, y3], _ => exact ⟨y0, y1, y2, y3, rfl⟩
  obtain ⟨y0, y1, y2, y3, rfl⟩ := hx
  exact ⟨c0, c1, c2, c3, c4, c5, c6, c7, c8, c9, c10, c11, y0, y1, y2, y3, n, rfl, by simp, by simpa [o0, k0] using hf 0 f0 rfl, by simpa [o1, k1] using hf 1 f1 rfl, by simpa [o2, k2] using hf 2 f2 rfl, by simpa [o3, k3] using hf 3 f3 rfl⟩
theorem open_aggC9 {r : Reach} {b0 : Nat} {t : TypeId} {f0 f1 f2 f3 : Field} {v : Value} {d : DataW H} {p : List MemPlace} (hs : P.underlying t = some (.struct #[f0, f1, f2, f3])) (o0 : f0.offset = 0) (k0 : P.cellsOf f0.type = 9) (o1 : f1.offset = 9) (k1 : P.cellsOf f1.type = 1) (o2 : f2.offset = 10) (k2 : P.cellsOf f2.type = 1) (o3 : f3.offset = 11) (k3 : P.cellsOf f3.type = 1) (hC : P.cellsOf t = 12)
    (hv : Value.okWide P w r b0 t v) (h : DataW.Trod enc P w base spare held t v d p) :
    ∃ (c0 c1 c2 c3 c4 c5 c6 c7 c8 c9 c10 c11 : Value) (y0 y1 y2 y3 : DataW H × List MemPlace) (n : Nat), v = .agg #[c0, c1, c2, c3, c4, c5, c6, c7, c8, c9, c10, c11] ∧ d = .agg [y0.1, y1.1, y2.1, y3.1] ∧ p = y0.2 ++ (y1.2 ++ (y2.2 ++ (y3.2))) ∧ DataW.trod enc P w base spare held n f0.type [c0, c1, c2, c3, c4, c5, c6, c7, c8] = some y0 ∧ DataW.trod enc P w base spare held n f1.type [c9] = some y1 ∧ DataW.trod enc P w base spare held n f2.type [c10] = some y2 ∧ DataW.trod enc P w base spare held n f3.type [c11] = some y3 := by
  obtain ⟨as, rfl, hsz⟩ := okWide_struct hs hv
  obtain ⟨fuel, hf⟩ := h
  obtain ⟨c0, c1, c2, c3, c4, c5, c6, c7, c8, c9, c10, c11, y0, y1, y2, y3, n, hc, hx, hr⟩ := open_cellsC9 hs o0 k0 o1 k1 o2 k2 o3 k3 hC hf
  simp only [Prod.mk.injEq] at hx
  refine ⟨c0, c1, c2, c3, c4, c5, c6, c7, c8, c9, c10, c11, y0, y1, y2, y3, n, ?_, hx.1, hx.2, hr⟩
  obtain ⟨l⟩ := as
  simp only [Value.cells] at hc
  rw [hc]
theorem listM7 {α : Type} {l : List α} (h : l.length = 10) : ∃ c0 c1 c2 c3 c4 c5 c6 c7 c8 c9, l = [c0, c1, c2, c3, c4, c5, c6, c7, c8, c9] := by
  match l, h with
  | [c0, c1, c2, c3, c4, c5, c6, c7, c8, c9], _ => exact ⟨c0, c1, c2, c3, c4, c5, c6, c7, c8, c9, rfl⟩
theorem open_cellsM7 {t : TypeId} {f0 f1 f2 f3 : Field} {fuel : Nat} {cs : List Value} {x : DataW H × List MemPlace} (hs : P.underlying t = some (.struct #[f0, f1, f2, f3])) (o0 : f0.offset = 0) (k0 : P.cellsOf f0.type = 7) (o1 : f1.offset = 7) (k1 : P.cellsOf f1.type = 1) (o2 : f2.offset = 8) (k2 : P.cellsOf f2.type = 1) (o3 : f3.offset = 9) (k3 : P.cellsOf f3.type = 1) (hC : P.cellsOf t = 10)
    (h : DataW.trod enc P w base spare held fuel t cs = some x) :
    ∃ (c0 c1 c2 c3 c4 c5 c6 c7 c8 c9 : Value) (y0 y1 y2 y3 : DataW H × List MemPlace) (n : Nat), cs = [c0, c1, c2, c3, c4, c5, c6, c7, c8, c9] ∧ x = (.agg [y0.1, y1.1, y2.1, y3.1], y0.2 ++ (y1.2 ++ (y2.2 ++ (y3.2)))) ∧ DataW.trod enc P w base spare held n f0.type [c0, c1, c2, c3, c4, c5, c6] = some y0 ∧ DataW.trod enc P w base spare held n f1.type [c7] = some y1 ∧ DataW.trod enc P w base spare held n f2.type [c8] = some y2 ∧ DataW.trod enc P w base spare held n f3.type [c9] = some y3 := by
  obtain ⟨xs, n, _, rfl, hl, hlen, hf⟩ := DataW.trod_struct hs h
  obtain ⟨c0, c1, c2, c3, c4, c5, c6, c7, c8, c9, rfl⟩ := listM7 (hl.trans hC)
  have hlen' : xs.length = 4 := by simpa using hlen
  clear hlen
  have hx : ∃ y0 y1 y2 y3, xs = [y0, y1, y2, y3] := by
    match xs, hlen' with
    | [y0, y1, y2, y3], _ => exact ⟨y0, y1, y2, y3, rfl⟩
  obtain ⟨y0, y1, y2, y3, rfl⟩ := hx
  exact ⟨c0, c1, c2, c3, c4, c5, c6, c7, c8, c9, y0, y1, y2, y3, n, rfl, by simp, by simpa [o0, k0] using hf 0 f0 rfl, by simpa [o1, k1] using hf 1 f1 rfl, by simpa [o2, k2] using hf 2 f2 rfl, by simpa [o3, k3] using hf 3 f3 rfl⟩
theorem open_aggM7 {r : Reach} {b0 : Nat} {t : TypeId} {f0 f1 f2 f3 : Field} {v : Value} {d : DataW H} {p : List MemPlace} (hs : P.underlying t = some (.struct #[f0, f1, f2, f3])) (o0 : f0.offset = 0) (k0 : P.cellsOf f0.type = 7) (o1 : f1.offset = 7) (k1 : P.cellsOf f1.type = 1) (o2 : f2.offset = 8) (k2 : P.cellsOf f2.type = 1) (o3 : f3.offset = 9) (k3 : P.cellsOf f3.type = 1) (hC : P.cellsOf t = 10)
    (hv : Value.okWide P w r b0 t v) (h : DataW.Trod enc P w base spare held t v d p) :
    ∃ (c0 c1 c2 c3 c4 c5 c6 c7 c8 c9 : Value) (y0 y1 y2 y3 : DataW H × List MemPlace) (n : Nat), v = .agg #[c0, c1, c2, c3, c4, c5, c6, c7, c8, c9] ∧ d = .agg [y0.1, y1.1, y2.1, y3.1] ∧ p = y0.2 ++ (y1.2 ++ (y2.2 ++ (y3.2))) ∧ DataW.trod enc P w base spare held n f0.type [c0, c1, c2, c3, c4, c5, c6] = some y0 ∧ DataW.trod enc P w base spare held n f1.type [c7] = some y1 ∧ DataW.trod enc P w base spare held n f2.type [c8] = some y2 ∧ DataW.trod enc P w base spare held n f3.type [c9] = some y3 := by
  obtain ⟨as, rfl, hsz⟩ := okWide_struct hs hv
  obtain ⟨fuel, hf⟩ := h
  obtain ⟨c0, c1, c2, c3, c4, c5, c6, c7, c8, c9, y0, y1, y2, y3, n, hc, hx, hr⟩ := open_cellsM7 hs o0 k0 o1 k1 o2 k2 o3 k3 hC hf
  simp only [Prod.mk.injEq] at hx
  refine ⟨c0, c1, c2, c3, c4, c5, c6, c7, c8, c9, y0, y1, y2, y3, n, ?_, hx.1, hx.2, hr⟩
  obtain ⟨l⟩ := as
  simp only [Value.cells] at hc
  rw [hc]
theorem listM98 {α : Type} {l : List α} (h : l.length = 19) : ∃ c0 c1 c2 c3 c4 c5 c6 c7 c8 c9 c10 c11 c12 c13 c14 c15 c16 c17 c18, l = [c0, c1, c2, c3, c4, c5, c6, c7, c8, c9, c10, c11, c12, c13, c14, c15, c16, c17, c18] := by
  match l, h with
  | [c0, c1, c2, c3, c4, c5, c6, c7, c8, c9, c10, c11, c12, c13, c14, c15, c16, c17, c18], _ => exact ⟨c0, c1, c2, c3, c4, c5, c6, c7, c8, c9, c10, c11, c12, c13, c14, c15, c16, c17, c18, rfl⟩
theorem open_cellsM98 {t : TypeId} {f0 f1 f2 f3 : Field} {fuel : Nat} {cs : List Value} {x : DataW H × List MemPlace} (hs : P.underlying t = some (.struct #[f0, f1, f2, f3])) (o0 : f0.offset = 0) (k0 : P.cellsOf f0.type = 9) (o1 : f1.offset = 9) (k1 : P.cellsOf f1.type = 8) (o2 : f2.offset = 17) (k2 : P.cellsOf f2.type = 1) (o3 : f3.offset = 18) (k3 : P.cellsOf f3.type = 1) (hC : P.cellsOf t = 19)
    (h : DataW.trod enc P w base spare held fuel t cs = some x) :
    ∃ (c0 c1 c2 c3 c4 c5 c6 c7 c8 c9 c10 c11 c12 c13 c14 c15 c16 c17 c18 : Value) (y0 y1 y2 y3 : DataW H × List MemPlace) (n : Nat), cs = [c0, c1, c2, c3, c4, c5, c6, c7, c8, c9, c10, c11, c12, c13, c14, c15, c16, c17, c18] ∧ x = (.agg [y0.1, y1.1, y2.1, y3.1], y0.2 ++ (y1.2 ++ (y2.2 ++ (y3.2)))) ∧ DataW.trod enc P w base spare held n f0.type [c0, c1, c2, c3, c4, c5, c6, c7, c8] = some y0 ∧ DataW.trod enc P w base spare held n f1.type [c9, c10, c11, c12, c13, c14, c15, c16] = some y1 ∧ DataW.trod enc P w base spare held n f2.type [c17] = some y2 ∧ DataW.trod enc P w base spare held n f3.type [c18] = some y3 := by
  obtain ⟨xs, n, _, rfl, hl, hlen, hf⟩ := DataW.trod_struct hs h
  obtain ⟨c0, c1, c2, c3, c4, c5, c6, c7, c8, c9, c10, c11, c12, c13, c14, c15, c16, c17, c18, rfl⟩ := listM98 (hl.trans hC)
  have hlen' : xs.length = 4 := by simpa using hlen
  clear hlen
  have hx : ∃ y0 y1 y2 y3, xs = [y0, y1, y2, y3] := by
    match xs, hlen' with
    | [y0, y1, y2, y3], _ => exact ⟨y0, y1, y2, y3, rfl⟩
  obtain ⟨y0, y1, y2, y3, rfl⟩ := hx
  exact ⟨c0, c1, c2, c3, c4, c5, c6, c7, c8, c9, c10, c11, c12, c13, c14, c15, c16, c17, c18, y0, y1, y2, y3, n, rfl, by simp, by simpa [o0, k0] using hf 0 f0 rfl, by simpa [o1, k1] using hf 1 f1 rfl, by simpa [o2, k2] using hf 2 f2 rfl, by simpa [o3, k3] using hf 3 f3 rfl⟩
theorem open_aggM98 {r : Reach} {b0 : Nat} {t : TypeId} {f0 f1 f2 f3 : Field} {v : Value} {d : DataW H} {p : List MemPlace} (hs : P.underlying t = some (.struct #[f0, f1, f2, f3])) (o0 : f0.offset = 0) (k0 : P.cellsOf f0.type = 9) (o1 : f1.offset = 9) (k1 : P.cellsOf f1.type = 8) (o2 : f2.offset = 17) (k2 : P.cellsOf f2.type = 1) (o3 : f3.offset = 18) (k3 : P.cellsOf f3.type = 1) (hC : P.cellsOf t = 19)
    (hv : Value.okWide P w r b0 t v) (h : DataW.Trod enc P w base spare held t v d p) :
    ∃ (c0 c1 c2 c3 c4 c5 c6 c7 c8 c9 c10 c11 c12 c13 c14 c15 c16 c17 c18 : Value) (y0 y1 y2 y3 : DataW H × List MemPlace) (n : Nat), v = .agg #[c0, c1, c2, c3, c4, c5, c6, c7, c8, c9, c10, c11, c12, c13, c14, c15, c16, c17, c18] ∧ d = .agg [y0.1, y1.1, y2.1, y3.1] ∧ p = y0.2 ++ (y1.2 ++ (y2.2 ++ (y3.2))) ∧ DataW.trod enc P w base spare held n f0.type [c0, c1, c2, c3, c4, c5, c6, c7, c8] = some y0 ∧ DataW.trod enc P w base spare held n f1.type [c9, c10, c11, c12, c13, c14, c15, c16] = some y1 ∧ DataW.trod enc P w base spare held n f2.type [c17] = some y2 ∧ DataW.trod enc P w base spare held n f3.type [c18] = some y3 := by
  obtain ⟨as, rfl, hsz⟩ := okWide_struct hs hv
  obtain ⟨fuel, hf⟩ := h
  obtain ⟨c0, c1, c2, c3, c4, c5, c6, c7, c8, c9, c10, c11, c12, c13, c14, c15, c16, c17, c18, y0, y1, y2, y3, n, hc, hx, hr⟩ := open_cellsM98 hs o0 k0 o1 k1 o2 k2 o3 k3 hC hf
  simp only [Prod.mk.injEq] at hx
  refine ⟨c0, c1, c2, c3, c4, c5, c6, c7, c8, c9, c10, c11, c12, c13, c14, c15, c16, c17, c18, y0, y1, y2, y3, n, ?_, hx.1, hx.2, hr⟩
  obtain ⟨l⟩ := as
  simp only [Value.cells] at hc
  rw [hc]
theorem listM99 {α : Type} {l : List α} (h : l.length = 20) : ∃ c0 c1 c2 c3 c4 c5 c6 c7 c8 c9 c10 c11 c12 c13 c14 c15 c16 c17 c18 c19, l = [c0, c1, c2, c3, c4, c5, c6, c7, c8, c9, c10, c11, c12, c13, c14, c15, c16, c17, c18, c19] := by
  match l, h with
  | [c0, c1, c2, c3, c4, c5, c6, c7, c8, c9, c10, c11, c12, c13, c14, c15, c16, c17, c18, c19], _ => exact ⟨c0, c1, c2, c3, c4, c5, c6, c7, c8, c9, c10, c11, c12, c13, c14, c15, c16, c17, c18, c19, rfl⟩
theorem open_cellsM99 {t : TypeId} {f0 f1 f2 f3 : Field} {fuel : Nat} {cs : List Value} {x : DataW H × List MemPlace} (hs : P.underlying t = some (.struct #[f0, f1, f2, f3])) (o0 : f0.offset = 0) (k0 : P.cellsOf f0.type = 9) (o1 : f1.offset = 9) (k1 : P.cellsOf f1.type = 9) (o2 : f2.offset = 18) (k2 : P.cellsOf f2.type = 1) (o3 : f3.offset = 19) (k3 : P.cellsOf f3.type = 1) (hC : P.cellsOf t = 20)
    (h : DataW.trod enc P w base spare held fuel t cs = some x) :
    ∃ (c0 c1 c2 c3 c4 c5 c6 c7 c8 c9 c10 c11 c12 c13 c14 c15 c16 c17 c18 c19 : Value) (y0 y1 y2 y3 : DataW H × List MemPlace) (n : Nat), cs = [c0, c1, c2, c3, c4, c5, c6, c7, c8, c9, c10, c11, c12, c13, c14, c15, c16, c17, c18, c19] ∧ x = (.agg [y0.1, y1.1, y2.1, y3.1], y0.2 ++ (y1.2 ++ (y2.2 ++ (y3.2)))) ∧ DataW.trod enc P w base spare held n f0.type [c0, c1, c2, c3, c4, c5, c6, c7, c8] = some y0 ∧ DataW.trod enc P w base spare held n f1.type [c9, c10, c11, c12, c13, c14, c15, c16, c17] = some y1 ∧ DataW.trod enc P w base spare held n f2.type [c18] = some y2 ∧ DataW.trod enc P w base spare held n f3.type [c19] = some y3 := by
  obtain ⟨xs, n, _, rfl, hl, hlen, hf⟩ := DataW.trod_struct hs h
  obtain ⟨c0, c1, c2, c3, c4, c5, c6, c7, c8, c9, c10, c11, c12, c13, c14, c15, c16, c17, c18, c19, rfl⟩ := listM99 (hl.trans hC)
  have hlen' : xs.length = 4 := by simpa using hlen
  clear hlen
  have hx : ∃ y0 y1 y2 y3, xs = [y0, y1, y2, y3] := by
    match xs, hlen' with
    | [y0, y1, y2, y3], _ => exact ⟨y0, y1, y2, y3, rfl⟩
  obtain ⟨y0, y1, y2, y3, rfl⟩ := hx
  exact ⟨c0, c1, c2, c3, c4, c5, c6, c7, c8, c9, c10, c11, c12, c13, c14, c15, c16, c17, c18, c19, y0, y1, y2, y3, n, rfl, by simp, by simpa [o0, k0] using hf 0 f0 rfl, by simpa [o1, k1] using hf 1 f1 rfl, by simpa [o2, k2] using hf 2 f2 rfl, by simpa [o3, k3] using hf 3 f3 rfl⟩
theorem open_aggM99 {r : Reach} {b0 : Nat} {t : TypeId} {f0 f1 f2 f3 : Field} {v : Value} {d : DataW H} {p : List MemPlace} (hs : P.underlying t = some (.struct #[f0, f1, f2, f3])) (o0 : f0.offset = 0) (k0 : P.cellsOf f0.type = 9) (o1 : f1.offset = 9) (k1 : P.cellsOf f1.type = 9) (o2 : f2.offset = 18) (k2 : P.cellsOf f2.type = 1) (o3 : f3.offset = 19) (k3 : P.cellsOf f3.type = 1) (hC : P.cellsOf t = 20)
    (hv : Value.okWide P w r b0 t v) (h : DataW.Trod enc P w base spare held t v d p) :
    ∃ (c0 c1 c2 c3 c4 c5 c6 c7 c8 c9 c10 c11 c12 c13 c14 c15 c16 c17 c18 c19 : Value) (y0 y1 y2 y3 : DataW H × List MemPlace) (n : Nat), v = .agg #[c0, c1, c2, c3, c4, c5, c6, c7, c8, c9, c10, c11, c12, c13, c14, c15, c16, c17, c18, c19] ∧ d = .agg [y0.1, y1.1, y2.1, y3.1] ∧ p = y0.2 ++ (y1.2 ++ (y2.2 ++ (y3.2))) ∧ DataW.trod enc P w base spare held n f0.type [c0, c1, c2, c3, c4, c5, c6, c7, c8] = some y0 ∧ DataW.trod enc P w base spare held n f1.type [c9, c10, c11, c12, c13, c14, c15, c16, c17] = some y1 ∧ DataW.trod enc P w base spare held n f2.type [c18] = some y2 ∧ DataW.trod enc P w base spare held n f3.type [c19] = some y3 := by
  obtain ⟨as, rfl, hsz⟩ := okWide_struct hs hv
  obtain ⟨fuel, hf⟩ := h
  obtain ⟨c0, c1, c2, c3, c4, c5, c6, c7, c8, c9, c10, c11, c12, c13, c14, c15, c16, c17, c18, c19, y0, y1, y2, y3, n, hc, hx, hr⟩ := open_cellsM99 hs o0 k0 o1 k1 o2 k2 o3 k3 hC hf
  simp only [Prod.mk.injEq] at hx
  refine ⟨c0, c1, c2, c3, c4, c5, c6, c7, c8, c9, c10, c11, c12, c13, c14, c15, c16, c17, c18, c19, y0, y1, y2, y3, n, ?_, hx.1, hx.2, hr⟩
  obtain ⟨l⟩ := as
  simp only [Value.cells] at hc
  rw [hc]
end
end Go.Proofs.YtlilffoflkkbdaaDoor
